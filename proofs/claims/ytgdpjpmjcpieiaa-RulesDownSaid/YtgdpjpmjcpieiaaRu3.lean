/- What is down then: the law's own text tells true. No condition. -/
import Derived.Test.YtgdpjpmjcpieiaaRu2
import Derived.Test.YtgdpjpmjcpieiaaV4
namespace Go.Proofs.Ytgdpjpmjcpieiaa
open Go
set_option linter.unusedVariables false
set_option linter.unusedSimpArgs false
set_option maxRecDepth 100000
set_option maxHeartbeats 0
theorem ups_spec {g : Gl} {D : Dict} {M : MList} {a : Value} {xs : List Vw} (own : Ht) (hn : xs.length ≤ 1000) (ha : Vws D a xs) :
    Gets Try.prog g 20 [a, .agg (Ht.cells own).toArray] D M (fun v D => ∃ zs : List Vw, zs.Perm (someV own 2 xs) ∧ Ints D v (zs.map (·.id))) := by
  refine Gets.enter Try.func20 rfl Try.ntmps20 ?_
  refine R.sq ?_
  refine R.rg ?_
  refine R.bxA (fun zb1 hzb1 => ?_)
  refine R.as ?_
  refine R.nl ?_
  refine R.hs (e' := [(0, _), (3, _)]) ?_
  refine R.sq ?_
  refine R.rg ?_
  refine R.mv ?_
  refine R.lA 6 Try.isAgg23 Try.sizeOf23 ?_
  refine R.gt Try.call56 (of_spec own 2 hn ha) (fun zr1_2 zD2 hzD2 hzr1_2 => ?_)
  refine R.as ?_
  refine R.nl ?_
  refine R.hs (e' := [(4, _)]) ?_
  exact R.rk (RV.t .nil) 1 ⟨by assumption, rfl, hzr1_2⟩
theorem cntV_succ {xs : List Vw} {i : Nat} {x : Vw} (h : xs[i]? = some x) : cntV (xs.take (i + 1)) = cntV (xs.take i) + (if x.h.null then 0 else 1) := by
  rw [take_succ' h]; cases hq : x.h.null <;> simp [cntV, List.filter_append, hq]
theorem rulesDown_spec {g : Gl} {D : Dict} {M : MList} {a : Value} {xs : List Vw} (own : Ht) (now : Int) (lost : Bool) (ha : Vws D a xs) :
    Gives Try.prog g 5 [.agg (Ht.cells own).toArray, a, .int .i64 now, .bool lost] D M (.bool true) := by
  have hla := ha.form.choose_spec.choose_spec.2.2
  have hle : Le D D := Le.rfl'
  refine Gives.enter Try.func5 rfl Try.ntmps5 ?_
  refine R.sq ?_
  refine R.rg ?_
  refine R.bxA (fun b4 hb4 => ?_)
  refine R.as ?_
  refine R.nl ?_
  refine R.hs (e' := [(1, _), (2, _), (3, _), (4, _)]) ?_
  refine R.sq ?_
  refine R.sq ?_
  refine R.rg ?_
  refine R.mv ?_
  refine R.ll (ha) Try.runUnderlying24 ?_
  refine R.cm ?_
  refine R.nl ?_
  refine R.hs (e' := [(1, _), (2, _), (3, _), (4, _), (23, _)]) ?_
  refine R.cd (fun zc2 => ?_) (fun zc2 => ?_)
  ·
    refine R.sq ?_
    refine R.rg ?_
    refine R.as ?_
    refine R.nl ?_
    refine R.hs (e' := [(8, _)]) ?_
    first | exact R.rl (RV.t .nil) 1 hle rfl | exact R.rl (RV.t .nil) 2 hle rfl | (refine R.rl (RV.t .nil) 2 hle (congrArg Value.bool (decide_eq_true ?_)); first | omega | (rcases hst.2 with h9 | h9 <;> simp_all <;> omega)) | (refine R.rl (RV.t .nil) 2 hle (congrArg Value.bool ?_); simp_all; done) | (exfalso; have hcr := case_range hi; simp_all; done)
  ·
    have hn : xs.length ≤ 1000 := by simp at zc2; omega
    refine Run.skip ?_
    refine R.sq ?_
    refine R.rg ?_
    refine R.lA 6 Try.isAgg23 Try.sizeOf23 ?_
    refine R.mv ?_
    refine R.mv ?_
    refine R.mv ?_
    refine R.cg Try.call11 (case_spec own now lost hn ha) ?_
    refine R.mv ?_
    refine R.ex ?_
    refine R.ex ?_
    refine R.ex ?_
    refine R.alA Try.zeroValue23 (fun b9 hb9 => ?_)
    refine R.st Try.sizeOf23 ?_
    refine R.as ?_
    refine R.as ?_
    refine R.nl ?_
    obtain ⟨h, c, e, hC⟩ : ∃ h c e, caseV own xs now lost = (h, c, e) := ⟨_, _, _, rfl⟩
    rw [hC]
    refine R.hs (e' := [(1, _), (2, _), (4, _), (9, _), (10, _), (11, _)]) ?_
    refine R.sq ?_
    refine R.sq ?_
    refine R.rg ?_
    refine R.mv ?_
    refine R.cm ?_
    refine R.nl ?_
    refine R.hs (e' := [(1, _), (2, _), (4, _), (9, _), (10, _), (34, _)]) ?_
    refine R.cd (fun zc4 => ?_) (fun zc4 => ?_)
    ·
      have hz := caseV_err hC (by simpa using zc4)
      refine R.sq ?_
      refine R.rg ?_
      refine R.cg Try.call13 (awake19_spec) ?_
      refine R.mv ?_
      refine R.gY (rfl) ?_
      refine R.mv ?_
      refine R.gY (rfl) ?_
      refine R.cm ?_
      refine R.pT (rfl) ?_
      refine R.as ?_
      refine R.nl ?_
      refine R.hs (e' := [(8, _)]) ?_
      first | exact R.rl (RV.t .nil) 1 hle rfl | exact R.rl (RV.t .nil) 2 hle rfl | (refine R.rl (RV.t .nil) 2 hle (congrArg Value.bool (decide_eq_true ?_)); first | omega | (rcases hst.2 with h9 | h9 <;> simp_all <;> omega)) | (refine R.rl (RV.t .nil) 2 hle (congrArg Value.bool ?_); simp_all; done) | (exfalso; have hcr := case_range hi; simp_all; done)
    ·
      obtain ⟨hok, hi⟩ := case_is hC (by simpa using zc4)
      have hv := (okCase_is hok).2
      have hf1 : (someV h 1 xs).length ≤ xs.length := List.length_filter_le _ _
      have hf2 : (someV h 2 xs).length ≤ xs.length := List.length_filter_le _ _
      refine Run.skip ?_
      refine R.sq ?_
      refine R.sq ?_
      refine R.rg ?_
      refine R.as ?_
      refine R.nl ?_
      refine R.hs (e' := [(1, _), (2, _), (4, _), (9, _), (10, _), (12, _)]) ?_
      refine Run.block ?_
      refine Run.loop (ι := Nat) [(1, _), (2, _), (4, _), (9, _), (10, _)] (fun i => [(12, .int .i64 (i : Int))]) (fun _ => D) (fun _ => (b9, .cells (Ht.cells h).toArray 23 (0, 0)) :: (b4, .cells (Ht.cells own).toArray 23 (0, 0)) :: M) (fun i => i ≤ xs.length) (fun i => xs.length - i) (0) (by repeat (first | exact trivial | refine ⟨rfl, ?_⟩)) ?h0 (by repeat (first | exact trivial | refine ⟨rfl, ?_⟩)) (fun w hs => hs) ?_
      case h0 => exact Nat.zero_le _
      rintro i hi'
      refine R.sq ?_
      refine R.sq ?_
      refine R.rg ?_
      refine R.mv ?_
      refine R.mv ?_
      refine R.ll (ha) Try.runUnderlying24 ?_
      refine R.cm ?_
      refine R.nl ?_
      refine R.hs (e' := [(1, _), (2, _), (4, _), (9, _), (10, _), (12, _), (43, _)]) ?_
      refine R.cd (fun zc5 => ?_) (fun zc5 => ?_)
      ·
        have hlt : i < xs.length := by simp at zc5; omega
        obtain ⟨x, hgx⟩ := get_of_lt hlt
        obtain ⟨b1, o1, hI1, hc1⟩ := ha.at Vw.len hgx
        refine Run.skip ?_
        refine R.sq ?_
        refine Run.block ?_
        refine R.sq ?_
        refine Run.drawC Grow.eq 7 [(1, _), (2, _), (4, _), (9, _), (10, _), (12, _)] mix (by kernel_rfl) (by repeat (first | exact trivial | refine ⟨rfl, ?_⟩)) ?_
        apply TC.val []
        · exact rfl
        · kernel_rfl
        ·
          rintro _ rfl 
          refine R.mv ?_
          refine R.nl ?_
          exact Run.loc rfl rfl rfl
        apply TC.val []
        · exact rfl
        · kernel_rfl
        ·
          rintro _ rfl 
          refine R.mv ?_
          refine R.nl ?_
          exact Run.loc rfl rfl rfl
        apply TC.val [1, 0]
        · exact rfl
        · kernel_rfl
        ·
          rintro _ rfl _ rfl _ rfl
          refine R.ix (hI1) Try.runUnderlying24 Try.sizeOf36 ?_
          refine R.nl ?_
          exact Run.loc rfl rfl rfl
        apply TC.val [0]
        · exact rfl
        · kernel_rfl
        ·
          rintro _ rfl _ rfl
          refine R.fa Try.runUnderlying36 Try.sizeOf3 ?_
          refine R.nl ?_
          exact Run.loc rfl rfl rfl
        apply TC.val [0]
        · exact rfl
        · kernel_rfl
        ·
          rintro _ rfl _ rfl
          refine R.ldD Try.isAgg3 ?_
          refine R.nl ?_
          exact Run.loc rfl rfl rfl
        apply TC.val []
        · exact rfl
        · kernel_rfl
        ·
          rintro _ rfl 
          refine R.fa Try.runUnderlying23 Try.sizeOf3 ?_
          refine R.nl ?_
          exact Run.loc rfl rfl rfl
        apply TC.val [0]
        · exact rfl
        · kernel_rfl
        ·
          rintro _ rfl _ rfl
          refine R.ld Try.isAgg3 ?_
          refine R.nl ?_
          exact Run.loc rfl rfl rfl
        refine TC.fin (by rfl) ?_
        rintro _ rfl _ rfl _ rfl _ rfl _ rfl _ rfl _ rfl _ rfl
        refine R.cm ?_
        refine R.nl ?_
        refine R.hs (e' := [(1, _), (2, _), (4, _), (9, _), (10, _), (12, _), (53, _)]) ?_
        refine R.cd (fun zc14 => ?_) (fun zc14 => ?_)
        ·
          refine R.sq ?_
          refine R.rg ?_
          refine R.cg Try.call13 (awake19_spec) ?_
          refine R.as ?_
          refine R.nl ?_
          refine R.hs (e' := [(8, _)]) ?_
          first | exact R.rl (RV.t .nil) 1 hle rfl | exact R.rl (RV.t .nil) 2 hle rfl | (refine R.rl (RV.t .nil) 2 hle (congrArg Value.bool (decide_eq_true ?_)); first | omega | (rcases hst.2 with h9 | h9 <;> simp_all <;> omega)) | (refine R.rl (RV.t .nil) 2 hle (congrArg Value.bool ?_); simp_all; done) | (exfalso; have hcr := case_range hi; simp_all; done)
        ·
          refine Run.skip ?_
          refine Run.endBlock ?_
          refine R.rg ?_
          refine R.mv ?_
          refine R.ad ?_
          refine R.as ?_
          refine R.nl ?_
          refine R.hs (e' := [(1, _), (2, _), (4, _), (9, _), (10, _), (12, _)]) ?_
          exact Run.again (i + 1) (by omega) (by omega) ⟨rfl, by repeat (first | exact trivial | refine ⟨rfl, ?_⟩)⟩ (fun w hs => hs)
      ·
        refine Run.exit rfl ?_
        refine R.sq ?_
        refine R.rg ?_
        refine R.mv ?_
        refine R.lA 6 Try.isAgg23 Try.sizeOf23 ?_
        refine R.gt Try.call19 (downs_spec h hn ha) (fun zr11_2 D1 hD1 hzr11_2 => ?_)
        try replace hle := hle.mono hD1
        try replace ha := ha.mono hD1
        try replace hId := hId.mono hD1
        try replace hIu := hIu.mono hD1
        obtain ⟨zd, hpd, hId⟩ := hzr11_2
        have hdl : (zd.map (·.id)).length = (someV h 1 xs).length := by rw [List.length_map]; exact hpd.length_eq
        refine R.as ?_
        refine R.nl ?_
        refine R.hs (e' := [(1, _), (2, _), (4, _), (9, _), (10, _), (13, _)]) ?_
        refine R.sq ?_
        refine R.rg ?_
        refine R.mv ?_
        refine R.lA 6 Try.isAgg23 Try.sizeOf23 ?_
        refine R.gt Try.call20 (ups_spec h hn ha) (fun zr12_2 D2 hD2 hzr12_2 => ?_)
        try replace hle := hle.mono hD2
        try replace ha := ha.mono hD2
        try replace hId := hId.mono hD2
        try replace hIu := hIu.mono hD2
        try replace hzr11_2 := hzr11_2.mono hD2
        obtain ⟨zu, hpu, hIu⟩ := hzr12_2
        have hul : (zu.map (·.id)).length = (someV h 2 xs).length := by rw [List.length_map]; exact hpu.length_eq
        refine R.as ?_
        refine R.nl ?_
        refine R.hs (e' := [(1, _), (2, _), (4, _), (9, _), (10, _), (13, _), (14, _)]) ?_
        refine R.sq ?_
        refine R.rg ?_
        refine R.as ?_
        refine R.nl ?_
        refine R.hs (e' := [(1, _), (2, _), (4, _), (9, _), (10, _), (13, _), (14, _), (15, _)]) ?_
        refine R.sq ?_
        refine R.sq ?_
        refine R.rg ?_
        refine R.as ?_
        refine R.nl ?_
        refine R.hs (e' := [(1, _), (2, _), (4, _), (9, _), (10, _), (13, _), (14, _), (15, _), (16, _)]) ?_
        refine Run.block ?_
        refine Run.loop (ι := Nat) [(1, _), (2, _), (4, _), (9, _), (10, _), (13, _), (14, _)] (fun i => [(16, .int .i64 (i : Int)), (15, .int .i64 (cntV (xs.take i) : Int))]) (fun _ => D2) (fun _ => (b9, .cells (Ht.cells h).toArray 23 (0, 0)) :: (b4, .cells (Ht.cells own).toArray 23 (0, 0)) :: M) (fun i => i ≤ xs.length) (fun i => xs.length - i) (0) (by repeat (first | exact trivial | refine ⟨rfl, ?_⟩)) ?h0 (by repeat (first | exact trivial | refine ⟨rfl, ?_⟩)) (fun w hs => hs) ?_
        case h0 => exact Nat.zero_le _
        rintro i hi'
        refine R.sq ?_
        refine R.sq ?_
        refine R.rg ?_
        refine R.mv ?_
        refine R.mv ?_
        refine R.ll (ha) Try.runUnderlying24 ?_
        refine R.cm ?_
        refine R.nl ?_
        refine R.hs (e' := [(1, _), (2, _), (4, _), (9, _), (10, _), (13, _), (14, _), (15, _), (16, _), (64, _)]) ?_
        refine R.cd (fun zc15 => ?_) (fun zc15 => ?_)
        ·
          have hlt : i < xs.length := by simp at zc15; omega
          obtain ⟨x, hgx⟩ := get_of_lt hlt
          obtain ⟨b1, o1, hI1, hc1⟩ := ha.at Vw.len hgx
          have hcl : cntV (xs.take i) ≤ i := Nat.le_trans (List.length_filter_le _ _) (by rw [List.length_take]; omega)
          refine Run.skip ?_
          refine R.sq ?_
          refine Run.block ?_
          refine R.sq ?_
          refine R.rg ?_
          refine R.mv ?_
          refine R.mv ?_
          refine R.ix (hI1) Try.runUnderlying24 Try.sizeOf36 ?_
          refine R.fa Try.runUnderlying36 Try.sizeOf23 ?_
          refine R.fa Try.runUnderlying23 Try.sizeOf4 ?_
          refine R.ldD Try.isAgg4 ?_
          refine R.nt ?_
          refine R.nl ?_
          refine R.hs (e' := [(1, _), (2, _), (4, _), (9, _), (10, _), (13, _), (14, _), (15, _), (16, _), (73, _)]) ?_
          refine R.cd (fun zc16 => ?_) (fun zc16 => ?_)
          ·
            have hnx : x.h.null = false := by simpa using zc16
            refine R.rg ?_
            refine R.mv ?_
            refine R.ad ?_
            refine R.as ?_
            refine R.nl ?_
            refine R.hs (e' := [(1, _), (2, _), (4, _), (9, _), (10, _), (13, _), (14, _), (15, _), (16, _)]) ?_
            refine Run.endBlock ?_
            refine R.rg ?_
            refine R.mv ?_
            refine R.ad ?_
            refine R.as ?_
            refine R.nl ?_
            refine R.hs (e' := [(1, _), (2, _), (4, _), (9, _), (10, _), (13, _), (14, _), (15, _), (16, _)]) ?_
            exact Run.again (i + 1) (by omega) (by omega) (by refine ⟨rfl, by rw [cntV_succ hgx, hnx]; rfl, ?_⟩; repeat (first | exact trivial | refine ⟨rfl, ?_⟩)) (fun w hs => hs)
          ·
            have hnx : x.h.null = true := by simpa using zc16
            refine Run.skip ?_
            refine Run.endBlock ?_
            refine R.rg ?_
            refine R.mv ?_
            refine R.ad ?_
            refine R.as ?_
            refine R.nl ?_
            refine R.hs (e' := [(1, _), (2, _), (4, _), (9, _), (10, _), (13, _), (14, _), (15, _), (16, _)]) ?_
            exact Run.again (i + 1) (by omega) (by omega) (by refine ⟨rfl, by rw [cntV_succ hgx, hnx]; rfl, ?_⟩; repeat (first | exact trivial | refine ⟨rfl, ?_⟩)) (fun w hs => hs)
        ·
          have hz : xs.take i = xs := by simp at zc15; exact List.take_of_length_le (by omega)
          rw [hz]
          clear hz
          refine Run.exit rfl ?_
          refine R.sq ?_
          refine R.rg ?_
          refine R.mv ?_
          refine R.gt Try.call21 (levels_spec hn ha) (fun zr19_1 D3 hD3 hzr19_1 => ?_)
          try replace hle := hle.mono hD3
          try replace ha := ha.mono hD3
          try replace hId := hId.mono hD3
          try replace hIu := hIu.mono hD3
          try replace hzr11_2 := hzr11_2.mono hD3
          try replace hzr12_2 := hzr12_2.mono hD3
          refine R.as ?_
          refine R.nl ?_
          have hL := hzr19_1
          refine R.hs (e' := [(1, _), (2, _), (4, _), (9, _), (10, _), (13, _), (14, _), (15, _), (17, _)]) ?_
          refine R.sq ?_
          refine R.sq ?_
          refine R.rg ?_
          refine R.mv ?_
          refine R.nl ?_
          refine R.hs (e' := [(1, _), (2, _), (4, _), (9, _), (10, _), (13, _), (14, _), (15, _), (17, _), (78, _)]) ?_
          refine Run.block ?_
          refine R.sq ?_
          refine R.rg ?_
          refine R.cm ?_
          refine R.as ?_
          refine R.nl ?_
          refine R.hs (e' := [(1, _), (2, _), (4, _), (9, _), (10, _), (13, _), (14, _), (15, _), (17, _), (78, _), (79, _)]) ?_
          refine R.cd (fun zc17 => ?_) (fun zc17 => ?_)
          ·
            have hst := case_stay hi (by simpa using zc17)
            refine R.sq ?_
            refine R.rg ?_
            refine R.cg Try.call13 (awake19_spec) ?_
            refine R.mv ?_
            refine R.gY (rfl) ?_
            refine R.lA 6 Try.isAgg23 Try.sizeOf23 ?_
            refine R.gY (rfl) ?_
            refine R.lA 6 Try.isAgg23 Try.sizeOf23 ?_
            refine R.gY (rfl) ?_
            refine R.ea Try.eqGuardType23 (eqAt23 _ _ _ _ _ _ _ _ _ _ _ _) ?_
            refine R.pT (rfl) ?_
            refine R.mv ?_
            refine R.gY ((decide_eq_true (Ht.ext'.1 hst.1))) ?_
            refine R.fa Try.runUnderlying23 Try.sizeOf4 ?_
            refine R.gY ((decide_eq_true (Ht.ext'.1 hst.1))) ?_
            refine R.ld Try.isAgg4 ?_
            refine R.gY ((decide_eq_true (Ht.ext'.1 hst.1))) ?_
            refine R.mv ?_
            refine R.gd (fun zg18 => ?_) (fun zg18 => ?_)
            ·
              refine R.mv ?_
              refine R.gY (zg18) ?_
              refine R.ll (hId) Try.runUnderlying45 ?_
              refine R.gY (zg18) ?_
              refine R.cm ?_
              refine R.gY ((decide_eq_true (Ht.ext'.1 hst.1))) ?_
              refine R.pF (zg18) ?_
              refine R.pT ((decide_eq_true (Ht.ext'.1 hst.1))) ?_
              refine R.as ?_
              refine R.nl ?_
              refine R.hs (e' := [(8, _)]) ?_
              first | exact R.rl (RV.t .nil) 1 hle rfl | exact R.rl (RV.t .nil) 2 hle rfl | (refine R.rl (RV.t .nil) 2 hle (congrArg Value.bool (decide_eq_true ?_)); first | omega | (rcases hst.2 with h9 | h9 <;> simp_all <;> omega)) | (refine R.rl (RV.t .nil) 2 hle (congrArg Value.bool ?_); simp_all; done) | (exfalso; have hcr := case_range hi; simp_all; done)
            ·
              refine R.gF (zg18) ?_
              refine R.gF (zg18) ?_
              refine R.gY ((decide_eq_true (Ht.ext'.1 hst.1))) ?_
              refine R.pT (zg18) ?_
              refine R.pT ((decide_eq_true (Ht.ext'.1 hst.1))) ?_
              refine R.as ?_
              refine R.nl ?_
              refine R.hs (e' := [(8, _)]) ?_
              first | exact R.rl (RV.t .nil) 1 hle rfl | exact R.rl (RV.t .nil) 2 hle rfl | (refine R.rl (RV.t .nil) 2 hle (congrArg Value.bool (decide_eq_true ?_)); first | omega | (rcases hst.2 with h9 | h9 <;> simp_all <;> omega)) | (refine R.rl (RV.t .nil) 2 hle (congrArg Value.bool ?_); simp_all; done) | (exfalso; have hcr := case_range hi; simp_all; done)
          ·
            refine R.sq ?_
            refine R.sq ?_
            refine R.rg ?_
            refine R.cm ?_
            refine R.as ?_
            refine R.nl ?_
            refine R.hs (e' := [(1, _), (2, _), (4, _), (9, _), (10, _), (13, _), (14, _), (15, _), (17, _), (78, _), (96, _)]) ?_
            refine R.cd (fun zc19 => ?_) (fun zc19 => ?_)
            ·
              refine Run.skip ?_
              refine R.cT (zc19) ?_
              refine R.sq ?_
              have hdg : lateV now own xs = true → (someV h 1 xs).length = cntV xs ∧ 0 < cntV xs := fun hl => down_gen hv hi (by simp_all) hl
              have hg25 : lateV now own xs = true → decide (((zd.map (·.id)).length : Int) = (cntV xs : Int)) = true := fun hl => decide_eq_true (by have := hdg hl; omega)
              refine R.rg ?_
              refine R.cg Try.call13 (awake19_spec) ?_
              refine R.mv ?_
              refine R.gY (rfl) ?_
              refine R.mv ?_
              refine R.gY (rfl) ?_
              refine R.lA 6 Try.isAgg23 Try.sizeOf23 ?_
              refine R.gY (rfl) ?_
              refine R.mv ?_
              refine R.gY (rfl) ?_
              refine R.cg Try.call15 (late_spec own now ha) ?_
              refine R.gY (rfl) ?_
              refine R.nt ?_
              refine R.gY (rfl) ?_
              refine R.mv ?_
              refine R.gd (fun zg20 => ?_) (fun zg20 => ?_)
              ·
                refine R.mv ?_
                refine R.gY (zg20) ?_
                refine R.ll (hId) Try.runUnderlying45 ?_
                refine R.gY (zg20) ?_
                refine R.mv ?_
                refine R.gY (zg20) ?_
                refine R.cm ?_
                refine R.gY (zg20) ?_
                refine R.mv ?_
                refine R.gY (hg25 (by simp_all)) ?_
                refine R.mv ?_
                refine R.gY (hg25 (by simp_all)) ?_
                refine R.cm ?_
                refine R.gY (zg20) ?_
                refine R.pT (hg25 (by simp_all)) ?_
                refine R.gY (rfl) ?_
                refine R.pF (zg20) ?_
                refine R.pT (rfl) ?_
                refine R.as ?_
                refine R.nl ?_
                refine R.hs (e' := [(8, _)]) ?_
                first | exact R.rl (RV.t .nil) 1 hle rfl | exact R.rl (RV.t .nil) 2 hle rfl | (refine R.rl (RV.t .nil) 2 hle (congrArg Value.bool (decide_eq_true ?_)); first | omega | (rcases hst.2 with h9 | h9 <;> simp_all <;> omega)) | (refine R.rl (RV.t .nil) 2 hle (congrArg Value.bool ?_); simp_all; done) | (exfalso; have hcr := case_range hi; simp_all; done)
              ·
                refine R.gF (zg20) ?_
                refine R.gF (zg20) ?_
                refine R.gF (zg20) ?_
                refine R.gF (zg20) ?_
                refine R.gU ?_
                refine R.gU ?_
                refine R.gF (zg20) ?_
                refine R.gY (rfl) ?_
                refine R.pT (zg20) ?_
                refine R.pT (rfl) ?_
                refine R.as ?_
                refine R.nl ?_
                refine R.hs (e' := [(8, _)]) ?_
                first | exact R.rl (RV.t .nil) 1 hle rfl | exact R.rl (RV.t .nil) 2 hle rfl | (refine R.rl (RV.t .nil) 2 hle (congrArg Value.bool (decide_eq_true ?_)); first | omega | (rcases hst.2 with h9 | h9 <;> simp_all <;> omega)) | (refine R.rl (RV.t .nil) 2 hle (congrArg Value.bool ?_); simp_all; done) | (exfalso; have hcr := case_range hi; simp_all; done)
            ·
              refine R.rg ?_
              refine R.cm ?_
              refine R.as ?_
              refine R.nl ?_
              refine R.hs (e' := [(1, _), (2, _), (4, _), (9, _), (10, _), (13, _), (14, _), (15, _), (17, _), (78, _), (96, _)]) ?_
              refine R.cd (fun zc21 => ?_) (fun zc21 => ?_)
              ·
                refine R.sq ?_
                have hdg : lateV now own xs = true → (someV h 1 xs).length = cntV xs ∧ 0 < cntV xs := fun hl => down_gen hv hi (by simp_all) hl
                have hg25 : lateV now own xs = true → decide (((zd.map (·.id)).length : Int) = (cntV xs : Int)) = true := fun hl => decide_eq_true (by have := hdg hl; omega)
                refine R.rg ?_
                refine R.cg Try.call13 (awake19_spec) ?_
                refine R.mv ?_
                refine R.gY (rfl) ?_
                refine R.mv ?_
                refine R.gY (rfl) ?_
                refine R.lA 6 Try.isAgg23 Try.sizeOf23 ?_
                refine R.gY (rfl) ?_
                refine R.mv ?_
                refine R.gY (rfl) ?_
                refine R.cg Try.call15 (late_spec own now ha) ?_
                refine R.gY (rfl) ?_
                refine R.nt ?_
                refine R.gY (rfl) ?_
                refine R.mv ?_
                refine R.gd (fun zg22 => ?_) (fun zg22 => ?_)
                ·
                  refine R.mv ?_
                  refine R.gY (zg22) ?_
                  refine R.ll (hId) Try.runUnderlying45 ?_
                  refine R.gY (zg22) ?_
                  refine R.mv ?_
                  refine R.gY (zg22) ?_
                  refine R.cm ?_
                  refine R.gY (zg22) ?_
                  refine R.mv ?_
                  refine R.gY (hg25 (by simp_all)) ?_
                  refine R.mv ?_
                  refine R.gY (hg25 (by simp_all)) ?_
                  refine R.cm ?_
                  refine R.gY (zg22) ?_
                  refine R.pT (hg25 (by simp_all)) ?_
                  refine R.gY (rfl) ?_
                  refine R.pF (zg22) ?_
                  refine R.pT (rfl) ?_
                  refine R.as ?_
                  refine R.nl ?_
                  refine R.hs (e' := [(8, _)]) ?_
                  first | exact R.rl (RV.t .nil) 1 hle rfl | exact R.rl (RV.t .nil) 2 hle rfl | (refine R.rl (RV.t .nil) 2 hle (congrArg Value.bool (decide_eq_true ?_)); first | omega | (rcases hst.2 with h9 | h9 <;> simp_all <;> omega)) | (refine R.rl (RV.t .nil) 2 hle (congrArg Value.bool ?_); simp_all; done) | (exfalso; have hcr := case_range hi; simp_all; done)
                ·
                  refine R.gF (zg22) ?_
                  refine R.gF (zg22) ?_
                  refine R.gF (zg22) ?_
                  refine R.gF (zg22) ?_
                  refine R.gU ?_
                  refine R.gU ?_
                  refine R.gF (zg22) ?_
                  refine R.gY (rfl) ?_
                  refine R.pT (zg22) ?_
                  refine R.pT (rfl) ?_
                  refine R.as ?_
                  refine R.nl ?_
                  refine R.hs (e' := [(8, _)]) ?_
                  first | exact R.rl (RV.t .nil) 1 hle rfl | exact R.rl (RV.t .nil) 2 hle rfl | (refine R.rl (RV.t .nil) 2 hle (congrArg Value.bool (decide_eq_true ?_)); first | omega | (rcases hst.2 with h9 | h9 <;> simp_all <;> omega)) | (refine R.rl (RV.t .nil) 2 hle (congrArg Value.bool ?_); simp_all; done) | (exfalso; have hcr := case_range hi; simp_all; done)
              ·
                refine R.sq ?_
                refine R.rg ?_
                refine R.cm ?_
                refine R.as ?_
                refine R.nl ?_
                refine R.hs (e' := [(1, _), (4, _), (9, _), (10, _), (13, _), (14, _), (15, _), (17, _), (78, _), (117, _)]) ?_
                refine R.cd (fun zc23 => ?_) (fun zc23 => ?_)
                ·
                  refine R.sq ?_
                  have hdr := down_refl hv hi (by simp_all)
                  have hg27 : decide (((zd.map (·.id)).length : Int) = (cntV xs : Int)) = true := decide_eq_true (by omega)
                  refine R.rg ?_
                  refine R.cg Try.call13 (awake19_spec) ?_
                  refine R.mv ?_
                  refine R.gY (rfl) ?_
                  refine R.mv ?_
                  refine R.gY (rfl) ?_
                  refine R.ll (hId) Try.runUnderlying45 ?_
                  refine R.gY (rfl) ?_
                  refine R.mv ?_
                  refine R.gY (rfl) ?_
                  refine R.cm ?_
                  refine R.pT (rfl) ?_
                  refine R.mv ?_
                  refine R.gY (hg27) ?_
                  refine R.mv ?_
                  refine R.gY (hg27) ?_
                  refine R.cm ?_
                  refine R.pT (hg27) ?_
                  refine R.as ?_
                  refine R.nl ?_
                  refine R.hs (e' := [(8, _)]) ?_
                  first | exact R.rl (RV.t .nil) 1 hle rfl | exact R.rl (RV.t .nil) 2 hle rfl | (refine R.rl (RV.t .nil) 2 hle (congrArg Value.bool (decide_eq_true ?_)); first | omega | (rcases hst.2 with h9 | h9 <;> simp_all <;> omega)) | (refine R.rl (RV.t .nil) 2 hle (congrArg Value.bool ?_); simp_all; done) | (exfalso; have hcr := case_range hi; simp_all; done)
                ·
                  refine R.sq ?_
                  refine R.rg ?_
                  refine R.cm ?_
                  refine R.as ?_
                  refine R.nl ?_
                  refine R.hs (e' := [(1, _), (4, _), (9, _), (10, _), (13, _), (14, _), (15, _), (17, _), (78, _), (130, _)]) ?_
                  refine R.cd (fun zc24 => ?_) (fun zc24 => ?_)
                  ·
                    refine R.sq ?_
                    refine R.sq ?_
                    have hdp := down_prop hv hi (by simp_all)
                    obtain ⟨y, hgy⟩ := get_of_lt (xs := levelsV xs) (i := (levelsV xs).length - 1) (by omega)
                    obtain ⟨b9', o9, hI9, hc9⟩ := hL.at Lv.len hgy
                    have hty := topL_at hgy
                    have hll := levelsV_len xs
                    have hg33 : decide (((levelsV xs).length : Int) = 0) = false := decide_eq_false (by omega)
                    have hg35 : decide (0 < ((zd.map (·.id)).length : Int)) = true := decide_eq_true (by omega)
                    have hg36 : decide (0 < ((zu.map (·.id)).length : Int)) = true := decide_eq_true (by omega)
                    refine R.rg ?_
                    refine R.as ?_
                    refine R.nl ?_
                    refine R.hs (e' := [(1, _), (13, _), (14, _), (15, _), (17, _), (18, _)]) ?_
                    refine Run.block ?_
                    refine Run.loop (ι := Nat) [(1, _), (13, _), (14, _), (15, _), (17, _)] (fun i => [(18, .int .i64 (i : Int))]) (fun _ => D3) (fun _ => (b9, .cells (Ht.cells h).toArray 23 (0, 0)) :: (b4, .cells (Ht.cells own).toArray 23 (0, 0)) :: M) (fun i => i ≤ (zu.map (·.id)).length) (fun i => (zu.map (·.id)).length - i) (0) (by repeat (first | exact trivial | refine ⟨rfl, ?_⟩)) ?h0 (by repeat (first | exact trivial | refine ⟨rfl, ?_⟩)) (fun w hs => hs) ?_
                    case h0 => exact Nat.zero_le _
                    rintro i hi'
                    refine R.sq ?_
                    refine R.sq ?_
                    refine R.rg ?_
                    refine R.mv ?_
                    refine R.mv ?_
                    refine R.ll (hIu) Try.runUnderlying45 ?_
                    refine R.cm ?_
                    refine R.nl ?_
                    refine R.hs (e' := [(1, _), (13, _), (14, _), (15, _), (17, _), (18, _), (135, _)]) ?_
                    refine R.cd (fun zc25 => ?_) (fun zc25 => ?_)
                    ·
                      have hlt : i < (zu.map (·.id)).length := by simp only [decide_eq_true_eq] at zc25; omega
                      obtain ⟨u, hgu⟩ := get_of_lt (xs := zu) (i := i) (by simpa using hlt)
                      obtain ⟨b2, o2, hI2, hc2⟩ := hIu.at (fun _ => rfl) (i := i) (x := u.id) (by simp [hgu])
                      have hum : u ∈ someV h 2 xs := hpu.subset (List.mem_of_getElem? hgu)
                      have hgv : getH xs u.id = u.h := by rw [getH, getV_mem hv (List.mem_filter.1 hum).1]; rfl
                      have hlu := hdp.1 u hum
                      rw [hty] at hlu
                      have hg160 : (!decide ((lvlH u.h).tau = y.tau ∧ (lvlH u.h).oid = y.oid ∧ (lvlH u.h).r = y.r)) = false := by rw [hlu]; simp
                      refine Run.skip ?_
                      refine R.sq ?_
                      refine Run.block ?_
                      refine R.sq ?_
                      refine R.rg ?_
                      refine R.mv ?_
                      refine R.mv ?_
                      refine R.mv ?_
                      refine R.ix (hI2) Try.runUnderlying45 Try.sizeOf3 ?_
                      refine R.ldD Try.isAgg3 ?_
                      refine R.cg Try.call22 (get_spec u.id ha) ?_
                      refine R.mv ?_
                      refine R.ex ?_
                      refine R.ex ?_
                      refine R.alA Try.zeroValue23 (fun zb26 hzb26 => ?_)
                      refine R.st Try.sizeOf23 ?_
                      refine R.as ?_
                      refine R.nl ?_
                      rw [hgv]
                      refine R.hs (e' := [(1, _), (13, _), (14, _), (15, _), (17, _), (18, _), (19, _)]) ?_
                      refine R.sq ?_
                      refine Run.drawC Grow.eq 12 [(1, _), (13, _), (14, _), (15, _), (17, _), (18, _), (19, _)] mix (by kernel_rfl) (by repeat (first | exact trivial | refine ⟨rfl, ?_⟩)) ?_
                      apply TC.val []
                      · exact rfl
                      · kernel_rfl
                      ·
                        rintro _ rfl 
                        refine R.mv ?_
                        refine R.nl ?_
                        exact Run.loc rfl rfl rfl
                      apply TC.val [0]
                      · exact rfl
                      · kernel_rfl
                      ·
                        rintro _ rfl _ rfl
                        refine R.ll (hL) Try.runUnderlying47 ?_
                        refine R.nl ?_
                        exact Run.loc rfl rfl rfl
                      apply TC.val [0]
                      · exact rfl
                      · kernel_rfl
                      ·
                        rintro _ rfl _ rfl
                        refine R.cm ?_
                        refine R.nl ?_
                        exact Run.loc rfl rfl rfl
                      apply TC.val [0]
                      · exact rfl
                      · kernel_rfl
                      ·
                        rintro _ rfl _ rfl
                        refine R.mv ?_
                        refine R.nl ?_
                        exact Run.loc rfl rfl rfl
                      apply TC.val [0]
                      · exact rfl
                      · kernel_rfl
                      ·
                        rintro _ rfl _ rfl
                        refine R.gY (hg33) ?_
                        refine R.lA 6 Try.isAgg23 Try.sizeOf23 ?_
                        refine R.nl ?_
                        exact Run.loc rfl rfl rfl
                      apply TC.val [1, 0]
                      · exact rfl
                      · kernel_rfl
                      ·
                        rintro _ rfl _ rfl _ rfl
                        refine R.gY (hg33) ?_
                        refine R.cg Try.call18 (lvl_spec u.h) ?_
                        refine R.nl ?_
                        exact Run.loc rfl rfl rfl
                      apply TC.val [2]
                      · exact rfl
                      · kernel_rfl
                      ·
                        rintro _ rfl _ rfl
                        refine R.gY (hg33) ?_
                        refine R.mv ?_
                        refine R.nl ?_
                        exact Run.loc rfl rfl rfl
                      apply TC.val [3]
                      · exact rfl
                      · kernel_rfl
                      ·
                        rintro _ rfl _ rfl
                        refine R.gY (hg33) ?_
                        refine R.mv ?_
                        refine R.nl ?_
                        exact Run.loc rfl rfl rfl
                      apply TC.val [4, 0]
                      · exact rfl
                      · kernel_rfl
                      ·
                        rintro _ rfl _ rfl _ rfl
                        refine R.gY (hg33) ?_
                        refine R.ll (hL) Try.runUnderlying47 ?_
                        refine R.nl ?_
                        exact Run.loc rfl rfl rfl
                      apply TC.val [5, 0]
                      · exact rfl
                      · kernel_rfl
                      ·
                        rintro _ rfl _ rfl _ rfl
                        refine R.gY (hg33) ?_
                        refine R.sb ?_
                        refine R.nl ?_
                        exact Run.loc rfl rfl rfl
                      apply TC.val [6, 3, 0]
                      · exact rfl
                      · kernel_rfl
                      ·
                        rintro _ rfl _ rfl _ rfl _ rfl
                        refine R.gY (hg33) ?_
                        refine R.ix (hI9) Try.runUnderlying47 Try.sizeOf42 ?_
                        refine R.nl ?_
                        exact Run.loc rfl rfl rfl
                      apply TC.val [7, 0]
                      · exact rfl
                      · kernel_rfl
                      ·
                        rintro _ rfl _ rfl _ rfl
                        refine R.gY (hg33) ?_
                        refine R.lAD 3 Try.isAgg42 Try.sizeOf42 ?_
                        refine R.nl ?_
                        exact Run.loc rfl rfl rfl
                      refine TC.fin (by rfl) ?_
                      rintro _ rfl _ rfl _ rfl _ rfl _ rfl _ rfl _ rfl _ rfl _ rfl _ rfl _ rfl _ rfl _ rfl
                      refine R.gY (hg33) ?_
                      refine R.na Try.eqGuardType42 (eqAt42 _ _ _ _ _ _) ?_
                      refine R.pF (hg33) ?_
                      refine R.nl ?_
                      refine R.hs (e' := [(1, _), (13, _), (14, _), (15, _), (17, _), (18, _), (160, _)]) ?_
                      refine R.cF (hg160) ?_
                      refine Run.skip ?_
                      refine Run.endBlock ?_
                      refine R.rg ?_
                      refine R.mv ?_
                      refine R.ad ?_
                      refine R.as ?_
                      refine R.nl ?_
                      refine R.hs (e' := [(1, _), (13, _), (14, _), (15, _), (17, _), (18, _)]) ?_
                      exact Run.again (i + 1) (by omega) (by omega) ⟨rfl, by repeat (first | exact trivial | refine ⟨rfl, ?_⟩)⟩ (fun w hs => hs.drop 1)
                    ·
                      refine Run.exit rfl ?_
                      refine R.sq ?_
                      refine R.rg ?_
                      refine R.cg Try.call13 (awake19_spec) ?_
                      refine R.mv ?_
                      refine R.gY (rfl) ?_
                      refine R.mv ?_
                      refine R.gY (rfl) ?_
                      refine R.ll (hId) Try.runUnderlying45 ?_
                      refine R.gY (rfl) ?_
                      refine R.cm ?_
                      refine R.pT (rfl) ?_
                      refine R.mv ?_
                      refine R.gY (hg35) ?_
                      refine R.mv ?_
                      refine R.gY (hg35) ?_
                      refine R.ll (hIu) Try.runUnderlying45 ?_
                      refine R.gY (hg35) ?_
                      refine R.cm ?_
                      refine R.pT (hg35) ?_
                      refine R.mv ?_
                      refine R.gY (hg36) ?_
                      refine R.mv ?_
                      refine R.gY (hg36) ?_
                      refine R.ll (hId) Try.runUnderlying45 ?_
                      refine R.gY (hg36) ?_
                      refine R.mv ?_
                      refine R.gY (hg36) ?_
                      refine R.ll (hIu) Try.runUnderlying45 ?_
                      refine R.gY (hg36) ?_
                      refine R.ad ?_
                      refine R.gY (hg36) ?_
                      refine R.mv ?_
                      refine R.gY (hg36) ?_
                      refine R.cm ?_
                      refine R.pT (hg36) ?_
                      refine R.as ?_
                      refine R.nl ?_
                      refine R.hs (e' := [(8, _)]) ?_
                      first | exact R.rl (RV.t .nil) 1 hle rfl | exact R.rl (RV.t .nil) 2 hle rfl | (refine R.rl (RV.t .nil) 2 hle (congrArg Value.bool (decide_eq_true ?_)); first | omega | (rcases hst.2 with h9 | h9 <;> simp_all <;> omega)) | (refine R.rl (RV.t .nil) 2 hle (congrArg Value.bool ?_); simp_all; done) | (exfalso; have hcr := case_range hi; simp_all; done)
                  ·
                    refine R.sq ?_
                    refine R.sq ?_
                    refine R.rg ?_
                    refine R.cm ?_
                    refine R.as ?_
                    refine R.nl ?_
                    refine R.hs (e' := [(4, _), (9, _), (10, _), (15, _), (78, _), (181, _)]) ?_
                    refine R.cd (fun zc40 => ?_) (fun zc40 => ?_)
                    ·
                      refine Run.skip ?_
                      refine R.cT (zc40) ?_
                      refine R.sq ?_
                      have hdn := down_null hv hi (by simp_all)
                      refine Run.drawC Grow.eq 13 [(4, _), (9, _), (10, _), (15, _)] mix (by kernel_rfl) (by repeat (first | exact trivial | refine ⟨rfl, ?_⟩)) ?_
                      apply TC.val []
                      · exact rfl
                      · kernel_rfl
                      ·
                        rintro _ rfl 
                        refine R.cg Try.call13 (awake19_spec) ?_
                        refine R.nl ?_
                        exact Run.loc rfl rfl rfl
                      apply TC.val [0]
                      · exact rfl
                      · kernel_rfl
                      ·
                        rintro _ rfl _ rfl
                        refine R.mv ?_
                        refine R.nl ?_
                        exact Run.loc rfl rfl rfl
                      apply TC.val [0]
                      · exact rfl
                      · kernel_rfl
                      ·
                        rintro _ rfl _ rfl
                        refine R.gY (rfl) ?_
                        refine R.lA 6 Try.isAgg23 Try.sizeOf23 ?_
                        refine R.nl ?_
                        exact Run.loc rfl rfl rfl
                      apply TC.val [1]
                      · exact rfl
                      · kernel_rfl
                      ·
                        rintro _ rfl _ rfl
                        refine R.gY (rfl) ?_
                        refine R.fa Try.runUnderlying23 Try.sizeOf3 ?_
                        refine R.nl ?_
                        exact Run.loc rfl rfl rfl
                      apply TC.val [2, 0]
                      · exact rfl
                      · kernel_rfl
                      ·
                        rintro _ rfl _ rfl _ rfl
                        refine R.gY (rfl) ?_
                        refine R.ld Try.isAgg3 ?_
                        refine R.nl ?_
                        exact Run.loc rfl rfl rfl
                      apply TC.val [3, 0]
                      · exact rfl
                      · kernel_rfl
                      ·
                        rintro _ rfl _ rfl _ rfl
                        refine R.gY (rfl) ?_
                        refine R.cg Try.call23 (hNull_spec own.id) ?_
                        refine R.nl ?_
                        exact Run.loc rfl rfl rfl
                      apply TC.val [4, 3, 0]
                      · exact rfl
                      · kernel_rfl
                      ·
                        rintro _ rfl _ rfl _ rfl _ rfl
                        refine R.gY (rfl) ?_
                        refine R.ea Try.eqGuardType23 (eqAt23 _ _ _ _ _ _ _ _ _ _ _ _) ?_
                        refine R.nl ?_
                        exact Run.loc rfl rfl rfl
                      apply TC.val [5, 0]
                      · exact rfl
                      · kernel_rfl
                      ·
                        rintro _ rfl _ rfl _ rfl
                        refine R.pT (rfl) ?_
                        refine R.nl ?_
                        exact Run.loc rfl rfl rfl
                      apply TC.val [0]
                      · exact rfl
                      · kernel_rfl
                      ·
                        rintro _ rfl _ rfl
                        refine R.mv ?_
                        refine R.nl ?_
                        exact Run.loc rfl rfl rfl
                      apply TC.val [0]
                      · exact rfl
                      · kernel_rfl
                      ·
                        rintro _ rfl _ rfl
                        refine R.gY ((decide_eq_true (Ht.ext'.1 hdn.1))) ?_
                        refine R.mv ?_
                        refine R.nl ?_
                        exact Run.loc rfl rfl rfl
                      apply TC.val [1, 0]
                      · exact rfl
                      · kernel_rfl
                      ·
                        rintro _ rfl _ rfl _ rfl
                        refine R.gY ((decide_eq_true (Ht.ext'.1 hdn.1))) ?_
                        refine R.cm ?_
                        refine R.nl ?_
                        exact Run.loc rfl rfl rfl
                      apply TC.val [2]
                      · exact rfl
                      · kernel_rfl
                      ·
                        rintro _ rfl _ rfl
                        refine R.gY ((decide_eq_true (Ht.ext'.1 hdn.1))) ?_
                        refine R.mv ?_
                        refine R.nl ?_
                        exact Run.loc rfl rfl rfl
                      apply TC.val [3, 0]
                      · exact rfl
                      · kernel_rfl
                      ·
                        rintro _ rfl _ rfl _ rfl
                        refine R.gY ((decide_eq_true (Ht.ext'.1 hdn.1))) ?_
                        refine R.cm ?_
                        refine R.nl ?_
                        exact Run.loc rfl rfl rfl
                      refine TC.fin (by rfl) ?_
                      rintro _ rfl _ rfl _ rfl _ rfl _ rfl _ rfl _ rfl _ rfl _ rfl _ rfl _ rfl _ rfl _ rfl _ rfl
                      refine R.gY ((decide_eq_true (Ht.ext'.1 hdn.1))) ?_
                      refine R.eb Try.runUnderlying4 ?_
                      refine R.pT ((decide_eq_true (Ht.ext'.1 hdn.1))) ?_
                      refine R.as ?_
                      refine R.nl ?_
                      refine R.hs (e' := [(8, _)]) ?_
                      first | exact R.rl (RV.t .nil) 1 hle rfl | exact R.rl (RV.t .nil) 2 hle rfl | (refine R.rl (RV.t .nil) 2 hle (congrArg Value.bool (decide_eq_true ?_)); first | omega | (rcases hst.2 with h9 | h9 <;> simp_all <;> omega)) | (refine R.rl (RV.t .nil) 2 hle (congrArg Value.bool ?_); simp_all; done) | (exfalso; have hcr := case_range hi; simp_all; done)
                    ·
                      refine R.rg ?_
                      refine R.cm ?_
                      refine R.as ?_
                      refine R.nl ?_
                      refine R.hs (e' := [(4, _), (9, _), (10, _), (15, _), (181, _)]) ?_
                      refine R.cd (fun zc55 => ?_) (fun zc55 => ?_)
                      ·
                        refine R.sq ?_
                        have hdn := down_null hv hi (by simp_all)
                        refine Run.drawC Grow.eq 13 [(4, _), (9, _), (10, _), (15, _)] mix (by kernel_rfl) (by repeat (first | exact trivial | refine ⟨rfl, ?_⟩)) ?_
                        apply TC.val []
                        · exact rfl
                        · kernel_rfl
                        ·
                          rintro _ rfl 
                          refine R.cg Try.call13 (awake19_spec) ?_
                          refine R.nl ?_
                          exact Run.loc rfl rfl rfl
                        apply TC.val [0]
                        · exact rfl
                        · kernel_rfl
                        ·
                          rintro _ rfl _ rfl
                          refine R.mv ?_
                          refine R.nl ?_
                          exact Run.loc rfl rfl rfl
                        apply TC.val [0]
                        · exact rfl
                        · kernel_rfl
                        ·
                          rintro _ rfl _ rfl
                          refine R.gY (rfl) ?_
                          refine R.lA 6 Try.isAgg23 Try.sizeOf23 ?_
                          refine R.nl ?_
                          exact Run.loc rfl rfl rfl
                        apply TC.val [1]
                        · exact rfl
                        · kernel_rfl
                        ·
                          rintro _ rfl _ rfl
                          refine R.gY (rfl) ?_
                          refine R.fa Try.runUnderlying23 Try.sizeOf3 ?_
                          refine R.nl ?_
                          exact Run.loc rfl rfl rfl
                        apply TC.val [2, 0]
                        · exact rfl
                        · kernel_rfl
                        ·
                          rintro _ rfl _ rfl _ rfl
                          refine R.gY (rfl) ?_
                          refine R.ld Try.isAgg3 ?_
                          refine R.nl ?_
                          exact Run.loc rfl rfl rfl
                        apply TC.val [3, 0]
                        · exact rfl
                        · kernel_rfl
                        ·
                          rintro _ rfl _ rfl _ rfl
                          refine R.gY (rfl) ?_
                          refine R.cg Try.call23 (hNull_spec own.id) ?_
                          refine R.nl ?_
                          exact Run.loc rfl rfl rfl
                        apply TC.val [4, 3, 0]
                        · exact rfl
                        · kernel_rfl
                        ·
                          rintro _ rfl _ rfl _ rfl _ rfl
                          refine R.gY (rfl) ?_
                          refine R.ea Try.eqGuardType23 (eqAt23 _ _ _ _ _ _ _ _ _ _ _ _) ?_
                          refine R.nl ?_
                          exact Run.loc rfl rfl rfl
                        apply TC.val [5, 0]
                        · exact rfl
                        · kernel_rfl
                        ·
                          rintro _ rfl _ rfl _ rfl
                          refine R.pT (rfl) ?_
                          refine R.nl ?_
                          exact Run.loc rfl rfl rfl
                        apply TC.val [0]
                        · exact rfl
                        · kernel_rfl
                        ·
                          rintro _ rfl _ rfl
                          refine R.mv ?_
                          refine R.nl ?_
                          exact Run.loc rfl rfl rfl
                        apply TC.val [0]
                        · exact rfl
                        · kernel_rfl
                        ·
                          rintro _ rfl _ rfl
                          refine R.gY ((decide_eq_true (Ht.ext'.1 hdn.1))) ?_
                          refine R.mv ?_
                          refine R.nl ?_
                          exact Run.loc rfl rfl rfl
                        apply TC.val [1, 0]
                        · exact rfl
                        · kernel_rfl
                        ·
                          rintro _ rfl _ rfl _ rfl
                          refine R.gY ((decide_eq_true (Ht.ext'.1 hdn.1))) ?_
                          refine R.cm ?_
                          refine R.nl ?_
                          exact Run.loc rfl rfl rfl
                        apply TC.val [2]
                        · exact rfl
                        · kernel_rfl
                        ·
                          rintro _ rfl _ rfl
                          refine R.gY ((decide_eq_true (Ht.ext'.1 hdn.1))) ?_
                          refine R.mv ?_
                          refine R.nl ?_
                          exact Run.loc rfl rfl rfl
                        apply TC.val [3, 0]
                        · exact rfl
                        · kernel_rfl
                        ·
                          rintro _ rfl _ rfl _ rfl
                          refine R.gY ((decide_eq_true (Ht.ext'.1 hdn.1))) ?_
                          refine R.cm ?_
                          refine R.nl ?_
                          exact Run.loc rfl rfl rfl
                        refine TC.fin (by rfl) ?_
                        rintro _ rfl _ rfl _ rfl _ rfl _ rfl _ rfl _ rfl _ rfl _ rfl _ rfl _ rfl _ rfl _ rfl _ rfl
                        refine R.gY ((decide_eq_true (Ht.ext'.1 hdn.1))) ?_
                        refine R.eb Try.runUnderlying4 ?_
                        refine R.pT ((decide_eq_true (Ht.ext'.1 hdn.1))) ?_
                        refine R.as ?_
                        refine R.nl ?_
                        refine R.hs (e' := [(8, _)]) ?_
                        first | exact R.rl (RV.t .nil) 1 hle rfl | exact R.rl (RV.t .nil) 2 hle rfl | (refine R.rl (RV.t .nil) 2 hle (congrArg Value.bool (decide_eq_true ?_)); first | omega | (rcases hst.2 with h9 | h9 <;> simp_all <;> omega)) | (refine R.rl (RV.t .nil) 2 hle (congrArg Value.bool ?_); simp_all; done) | (exfalso; have hcr := case_range hi; simp_all; done)
                      ·
                        refine Run.skip ?_
                        refine Run.endBlock ?_
                        refine R.sq ?_
                        refine R.rg ?_
                        refine R.as ?_
                        refine R.nl ?_
                        refine R.hs (e' := [(8, _)]) ?_
                        first | exact R.rl (RV.t .nil) 1 hle rfl | exact R.rl (RV.t .nil) 2 hle rfl | (refine R.rl (RV.t .nil) 2 hle (congrArg Value.bool (decide_eq_true ?_)); first | omega | (rcases hst.2 with h9 | h9 <;> simp_all <;> omega)) | (refine R.rl (RV.t .nil) 2 hle (congrArg Value.bool ?_); simp_all; done) | (exfalso; have hcr := case_range hi; simp_all; done)
end Go.Proofs.Ytgdpjpmjcpieiaa
