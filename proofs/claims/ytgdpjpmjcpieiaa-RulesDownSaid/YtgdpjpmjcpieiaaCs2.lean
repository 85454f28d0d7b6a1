/- What maintenance says: the rules, one by one. No condition. -/
import Derived.Test.YtgdpjpmjcpieiaaCs1
namespace Go.Proofs.Ytgdpjpmjcpieiaa
open Go
set_option linter.unusedVariables false
set_option linter.unusedSimpArgs false
set_option maxRecDepth 100000
set_option maxHeartbeats 0
abbrev ptr (b : Nat) : Value := .pointer (some ⟨b, 0, none⟩)
abbrev B1 (D : Dict) (b : Nat) (v : Value) : Prop := CsD D b 0 1 [v]
section
variable {g : Gl} {D : Dict} {M : MList} {a lv : Value} {xs : List Vw} {own : Ht} {top : Lv} {me now : Int} {lost : Bool} {ls : List Lv} {b b' b2 : Nat}
theorem c1_spec (h : CsD D b 0 6 (Ht.cells own)) : Gives Try.prog g 32 [ptr b] D M (.tuple #[.agg (Ht.cells own).toArray, .int .i64 0]) := by
  refine Gives.enter Try.func32 rfl Try.ntmps32 ?_
  refine R.sq ?_
  refine R.rg ?_
  refine R.alA Try.zeroValue23 (fun zb1 hzb1 => ?_)
  refine R.as ?_
  refine R.nl ?_
  refine R.hs (e' := [(0, _), (1, _)]) ?_
  refine R.sq ?_
  refine R.rg ?_
  refine R.lAD 6 Try.isAgg23 Try.sizeOf23 ?_
  refine R.st Try.sizeOf23 ?_
  refine R.as ?_
  refine R.nl ?_
  refine R.hs (e' := [(1, _), (2, _)]) ?_
  exact R.rt (RV.a Try.isAgg23 Try.sizeOf23 (RV.t .nil)) 1 rfl
theorem c2_spec (h : B1 D b (.int .i64 me)) : Gives Try.prog g 33 [ptr b] D M (.tuple #[.agg (Ht.cells (nullH me)).toArray, .int .i64 0]) := by
  refine Gives.enter Try.func33 rfl Try.ntmps33 ?_
  refine R.sq ?_
  refine R.rg ?_
  refine R.alA Try.zeroValue23 (fun zb1 hzb1 => ?_)
  refine R.as ?_
  refine R.nl ?_
  refine R.hs (e' := [(0, _), (1, _)]) ?_
  refine R.sq ?_
  refine R.rg ?_
  refine R.ldD Try.isAgg3 ?_
  refine R.cg Try.call23 (hNull_spec _) ?_
  refine R.st Try.sizeOf23 ?_
  refine R.as ?_
  refine R.nl ?_
  refine R.hs (e' := [(1, _), (2, _)]) ?_
  exact R.rt (RV.a Try.isAgg23 Try.sizeOf23 (RV.t .nil)) 1 rfl
theorem c3_spec (h : B1 D b (.int .i64 now)) (h' : B1 D b' (.int .i64 me)) : Gives Try.prog g 34 [ptr b, ptr b'] D M (.tuple #[.agg (Ht.cells (genO now me).1).toArray, .int .i64 (genO now me).2]) := by
  refine Gives.enter Try.func34 rfl Try.ntmps34 ?_
  refine R.sq ?_
  refine R.rg ?_
  refine R.alA Try.zeroValue23 (fun zb1 hzb1 => ?_)
  refine R.as ?_
  refine R.nl ?_
  refine R.hs (e' := [(0, _), (1, _), (2, _)]) ?_
  refine R.sq ?_
  refine R.rg ?_
  refine R.ldD Try.isAgg3 ?_
  refine R.ldD Try.isAgg3 ?_
  refine R.cg Try.call9 (gen_spec now me) ?_
  refine R.ex ?_
  refine R.ex ?_
  refine R.st Try.sizeOf23 ?_
  refine R.as ?_
  refine R.nl ?_
  refine R.hs (e' := [(2, _), (3, _)]) ?_
  exact R.rt (RV.a Try.isAgg23 Try.sizeOf23 (RV.t .nil)) 1 rfl
theorem c4_spec : Gives Try.prog g 35 [] D M (.bool true) := by
  refine Gives.enter Try.func35 rfl Try.ntmps35 ?_
  refine R.sq ?_
  refine R.rg ?_
  refine R.as ?_
  refine R.nl ?_
  refine R.hs (e' := []) ?_
  refine R.sq ?_
  refine R.rg ?_
  refine R.as ?_
  refine R.nl ?_
  refine R.hs (e' := [(0, _)]) ?_
  exact R.rt (RV.t .nil) 0 rfl
theorem c5_spec (hn : xs.length ≤ 1000) (h : CsD D b 0 6 (Ht.cells own)) (h' : B1 D b' a) (ha : Vws D a xs) : Gives Try.prog g 36 [ptr b, ptr b'] D M (.bool (own.null || decide (0 < (someV own 1 xs).length))) := by
  have hle : Le D D := Le.rfl'
  refine Gives.enter Try.func36 rfl Try.ntmps36 ?_
  refine R.sq ?_
  refine R.rg ?_
  refine R.as ?_
  refine R.nl ?_
  refine R.hs (e' := [(0, _), (1, _)]) ?_
  refine R.sq ?_
  refine R.rg ?_
  refine R.fa Try.runUnderlying23 Try.sizeOf4 ?_
  refine R.ldD Try.isAgg4 ?_
  refine R.mv ?_
  refine R.gd (fun zg1 => ?_) (fun zg1 => ?_)
  ·
    refine R.ldD Try.isAgg24 ?_
    refine R.gY (zg1) ?_
    refine R.lAD 6 Try.isAgg23 Try.sizeOf23 ?_
    refine R.gY (zg1) ?_
    refine R.gt Try.call19 (downs_spec own hn ha) (fun zr1_5 zD2 hzD2 hzr1_5 => ?_)
    try replace hle := hle.mono hzD2
    obtain ⟨zs, hzp, hzI⟩ := hzr1_5
    have hzl := hzp.length_eq
    refine R.gY (zg1) ?_
    refine R.ll (hzI) Try.runUnderlying45 ?_
    refine R.gY (zg1) ?_
    refine R.cm ?_
    refine R.pF (zg1) ?_
    refine R.as ?_
    refine R.nl ?_
    refine R.hs (e' := [(2, _)]) ?_
    refine R.rl (RV.t .nil) 0 hle (congrArg Value.bool ?_)
    simp_all
  ·
    refine R.gF (zg1) ?_
    refine R.gF (zg1) ?_
    refine R.gF (zg1) ?_
    refine R.gF (zg1) ?_
    refine R.pT (zg1) ?_
    refine R.as ?_
    refine R.nl ?_
    refine R.hs (e' := [(2, _)]) ?_
    refine R.rl (RV.t .nil) 0 hle (congrArg Value.bool ?_)
    simp_all
theorem c6_spec (h : B1 D b lv) (hL : Lvs D lv ls) : Gives Try.prog g 37 [ptr b] D M (.bool (decide (ls.length = 0))) := by
  refine Gives.enter Try.func37 rfl Try.ntmps37 ?_
  refine R.sq ?_
  refine R.rg ?_
  refine R.as ?_
  refine R.nl ?_
  refine R.hs (e' := [(0, _)]) ?_
  refine R.sq ?_
  refine R.rg ?_
  refine R.ldD Try.isAgg47 ?_
  refine R.ll (hL) Try.runUnderlying47 ?_
  refine R.cm ?_
  refine R.as ?_
  refine R.nl ?_
  refine R.hs (e' := [(1, _)]) ?_
  refine R.rt (RV.t .nil) 0 (congrArg Value.bool ?_)
  rw [decide_eq_decide]; omega
theorem c7_spec (h : B1 D b (.bool lost)) : Gives Try.prog g 38 [ptr b] D M (.bool lost) := by
  refine Gives.enter Try.func38 rfl Try.ntmps38 ?_
  refine R.sq ?_
  refine R.rg ?_
  refine R.as ?_
  refine R.nl ?_
  refine R.hs (e' := [(0, _)]) ?_
  refine R.sq ?_
  refine R.rg ?_
  refine R.ldD Try.isAgg4 ?_
  refine R.as ?_
  refine R.nl ?_
  refine R.hs (e' := [(1, _)]) ?_
  exact R.rt (RV.t .nil) 0 rfl
theorem c8_spec (h : B1 D b lv) (hL : Lvs D lv ls) : Gives Try.prog g 39 [ptr b] D M (.bool (decide (1 < ls.length))) := by
  refine Gives.enter Try.func39 rfl Try.ntmps39 ?_
  refine R.sq ?_
  refine R.rg ?_
  refine R.as ?_
  refine R.nl ?_
  refine R.hs (e' := [(0, _)]) ?_
  refine R.sq ?_
  refine R.rg ?_
  refine R.ldD Try.isAgg47 ?_
  refine R.ll (hL) Try.runUnderlying47 ?_
  refine R.cm ?_
  refine R.as ?_
  refine R.nl ?_
  refine R.hs (e' := [(1, _)]) ?_
  refine R.rt (RV.t .nil) 0 (congrArg Value.bool ?_)
  rw [decide_eq_decide]; omega
theorem c9_spec (hok : okVs xs = true) (h : CsD D b 0 3 (Lv.cells top)) (h' : B1 D b' a) (h2 : B1 D b2 (.int .i64 me)) (ha : Vws D a xs) :
    Gives Try.prog g 40 [ptr b, ptr b', ptr b2] D M (.tuple #[.agg (Ht.cells (atO top (leastV xs top - 1) me).1).toArray, .int .i64 (atO top (leastV xs top - 1) me).2]) := by
  have hrg := leastV_range xs top
  refine Gives.enter Try.func40 rfl Try.ntmps40 ?_
  refine R.sq ?_
  refine R.rg ?_
  refine R.alA Try.zeroValue23 (fun zb1 hzb1 => ?_)
  refine R.as ?_
  refine R.nl ?_
  refine R.hs (e' := [(0, _), (1, _), (2, _), (3, _)]) ?_
  refine R.sq ?_
  refine Run.drawC Grow.eq 9 [(0, _), (1, _), (2, _), (3, _)] mix (by kernel_rfl) (by repeat (first | exact trivial | refine ⟨rfl, ?_⟩)) ?_
  apply TC.val []
  · exact rfl
  · kernel_rfl
  ·
    rintro _ rfl 
    refine R.lAD 3 Try.isAgg42 Try.sizeOf42 ?_
    refine R.nl ?_
    exact Run.loc rfl rfl rfl
  apply TC.val []
  · exact rfl
  · kernel_rfl
  ·
    rintro _ rfl 
    refine R.ldD Try.isAgg24 ?_
    refine R.nl ?_
    exact Run.loc rfl rfl rfl
  apply TC.val []
  · exact rfl
  · kernel_rfl
  ·
    rintro _ rfl 
    refine R.lAD 3 Try.isAgg42 Try.sizeOf42 ?_
    refine R.nl ?_
    exact Run.loc rfl rfl rfl
  apply TC.val [1, 0]
  · exact rfl
  · kernel_rfl
  ·
    rintro _ rfl _ rfl _ rfl
    refine R.cg Try.call41 (least_spec top hok ha) ?_
    refine R.nl ?_
    exact Run.loc rfl rfl rfl
  apply TC.val [0]
  · exact rfl
  · kernel_rfl
  ·
    rintro _ rfl _ rfl
    refine R.sb ?_
    refine R.nl ?_
    exact Run.loc rfl rfl rfl
  apply TC.val []
  · exact rfl
  · kernel_rfl
  ·
    rintro _ rfl 
    refine R.ldD Try.isAgg3 ?_
    refine R.nl ?_
    exact Run.loc rfl rfl rfl
  apply TC.val [5, 1, 0]
  · exact rfl
  · kernel_rfl
  ·
    rintro _ rfl _ rfl _ rfl _ rfl
    refine R.cg Try.call27 (hAt_spec top (leastV xs top - 1) me) ?_
    refine R.nl ?_
    exact Run.loc rfl rfl rfl
  apply TC.val [0]
  · exact rfl
  · kernel_rfl
  ·
    rintro _ rfl _ rfl
    refine R.ex ?_
    refine R.nl ?_
    exact Run.loc rfl rfl rfl
  apply TC.val [1]
  · exact rfl
  · kernel_rfl
  ·
    rintro _ rfl _ rfl
    refine R.ex ?_
    refine R.nl ?_
    exact Run.loc rfl rfl rfl
  refine TC.fin (by rfl) ?_
  rintro _ rfl _ rfl _ rfl _ rfl _ rfl _ rfl _ rfl _ rfl _ rfl _ rfl
  refine R.st Try.sizeOf23 ?_
  refine R.as ?_
  refine R.nl ?_
  refine R.hs (e' := [(3, _), (4, _)]) ?_
  exact R.rt (RV.a Try.isAgg23 Try.sizeOf23 (RV.t .nil)) 1 rfl
theorem c10_spec (h : CsD D b 0 3 (Lv.cells top)) : Gives Try.prog g 42 [ptr b] D M (.bool (decide (top.r = 0))) := by
  refine Gives.enter Try.func42 rfl Try.ntmps42 ?_
  refine R.sq ?_
  refine R.rg ?_
  refine R.as ?_
  refine R.nl ?_
  refine R.hs (e' := [(0, _)]) ?_
  refine R.sq ?_
  refine R.rg ?_
  refine R.fa Try.runUnderlying42 Try.sizeOf3 ?_
  refine R.ldD Try.isAgg3 ?_
  refine R.cm ?_
  refine R.as ?_
  refine R.nl ?_
  refine R.hs (e' := [(1, _)]) ?_
  exact R.rt (RV.t .nil) 0 rfl
theorem c11_spec (h : CsD D b 0 3 (Lv.cells top)) (h' : B1 D b' (.int .i64 me)) : Gives Try.prog g 43 [ptr b, ptr b'] D M (.tuple #[.agg (Ht.cells (atO top 0 me).1).toArray, .int .i64 (atO top 0 me).2]) := by
  refine Gives.enter Try.func43 rfl Try.ntmps43 ?_
  refine R.sq ?_
  refine R.rg ?_
  refine R.alA Try.zeroValue23 (fun zb1 hzb1 => ?_)
  refine R.as ?_
  refine R.nl ?_
  refine R.hs (e' := [(0, _), (1, _), (2, _)]) ?_
  refine R.sq ?_
  refine R.rg ?_
  refine R.lAD 3 Try.isAgg42 Try.sizeOf42 ?_
  refine R.ldD Try.isAgg3 ?_
  refine R.cg Try.call27 (hAt_spec top 0 me) ?_
  refine R.ex ?_
  refine R.ex ?_
  refine R.st Try.sizeOf23 ?_
  refine R.as ?_
  refine R.nl ?_
  refine R.hs (e' := [(2, _), (3, _)]) ?_
  exact R.rt (RV.a Try.isAgg23 Try.sizeOf23 (RV.t .nil)) 1 rfl
theorem c12_spec (h : CsD D b 0 3 (Lv.cells top)) (h' : B1 D b' (.int .i64 me)) : Gives Try.prog g 44 [ptr b, ptr b'] D M (.bool (decide (top.oid = me))) := by
  refine Gives.enter Try.func44 rfl Try.ntmps44 ?_
  refine R.sq ?_
  refine R.rg ?_
  refine R.as ?_
  refine R.nl ?_
  refine R.hs (e' := [(0, _), (1, _)]) ?_
  refine R.sq ?_
  refine R.rg ?_
  refine R.fa Try.runUnderlying42 Try.sizeOf3 ?_
  refine R.ldD Try.isAgg3 ?_
  refine R.ldD Try.isAgg3 ?_
  refine R.cm ?_
  refine R.as ?_
  refine R.nl ?_
  refine R.hs (e' := [(2, _)]) ?_
  exact R.rt (RV.t .nil) 0 rfl
end
end Go.Proofs.Ytgdpjpmjcpieiaa
