import Derived.Shelf.SlSortCmp.NoneTotal
import Derived.Test.YtgdpjpmjcpieiaaGreatQ7
/- What maintenance says: the rules, one by one. No condition. -/
namespace Go.Proofs.YtgdpjpmjcpieiaaGreat
open Go
set_option linter.unusedVariables false
set_option linter.unusedSimpArgs false
set_option maxRecDepth 100000
set_option maxHeartbeats 0
abbrev ptr (b : Nat) : Value := .pointer (some ⟨b, 0, none⟩)
abbrev B1 (D : Dict) (b : Nat) (v : Value) : Prop := CsD D b 0 1 [v]
section
variable {g : Gl} {D : Dict} {M : MList} {a lv : Value} {xs : List Vw} {own : Ht} {top : Lv} {me now : Int} {lost : Bool} {ls : List Lv} {b b' b2 : Nat}
theorem c1_spec (h : CsD D b 0 6 (Ht.cells own)) : Gives Tryz.prog g 143 [ptr b] D M (.tuple #[.agg (Ht.cells own).toArray, .int .i64 0]) := by
  refine Gives.enter Tryz.func143 rfl Tryz.ntmps143 ?_; refine R.sq ?_; refine R.rg ?_; refine R.alA Tryz.zeroValue23 (fun zb1 hzb1 => ?_); refine R.as ?_; refine R.nl ?_; refine R.hs (e' := [(0, _), (1, _)]) ?_; refine R.sq ?_; refine R.rg ?_; refine R.lAD 6 Tryz.isAgg23 Tryz.sizeOf23 ?_; refine R.st Tryz.sizeOf23 ?_; refine R.as ?_; refine R.nl ?_; refine R.hs (e' := [(1, _), (2, _)]) ?_; exact R.rt (RV.a Tryz.isAgg23 Tryz.sizeOf23 (RV.t .nil)) 1 rfl
theorem c2_spec (h : B1 D b (.int .i64 me)) : Gives Tryz.prog g 144 [ptr b] D M (.tuple #[.agg (Ht.cells (nullH me)).toArray, .int .i64 0]) := by
  refine Gives.enter Tryz.func144 rfl Tryz.ntmps144 ?_; refine R.sq ?_; refine R.rg ?_; refine R.alA Tryz.zeroValue23 (fun zb1 hzb1 => ?_); refine R.as ?_; refine R.nl ?_; refine R.hs (e' := [(0, _), (1, _)]) ?_; refine R.sq ?_; refine R.rg ?_; refine R.ldD Tryz.isAgg3 ?_; refine R.cg Tryz.call25 (hNull_spec _) ?_; refine R.st Tryz.sizeOf23 ?_; refine R.as ?_; refine R.nl ?_; refine R.hs (e' := [(1, _), (2, _)]) ?_; exact R.rt (RV.a Tryz.isAgg23 Tryz.sizeOf23 (RV.t .nil)) 1 rfl
theorem c3_spec (h : B1 D b (.int .i64 now)) (h' : B1 D b' (.int .i64 me)) : Gives Tryz.prog g 145 [ptr b, ptr b'] D M (.tuple #[.agg (Ht.cells (genO now me).1).toArray, .int .i64 (genO now me).2]) := by
  refine Gives.enter Tryz.func145 rfl Tryz.ntmps145 ?_; refine R.sq ?_; refine R.rg ?_; refine R.alA Tryz.zeroValue23 (fun zb1 hzb1 => ?_); refine R.as ?_; refine R.nl ?_; refine R.hs (e' := [(0, _), (1, _), (2, _)]) ?_; refine R.sq ?_; refine R.rg ?_; refine R.ldD Tryz.isAgg3 ?_; refine R.ldD Tryz.isAgg3 ?_; refine R.cg Tryz.call146 (gen_spec now me) ?_; refine R.ex ?_; refine R.ex ?_; refine R.st Tryz.sizeOf23 ?_; refine R.as ?_; refine R.nl ?_; refine R.hs (e' := [(2, _), (3, _)]) ?_; exact R.rt (RV.a Tryz.isAgg23 Tryz.sizeOf23 (RV.t .nil)) 1 rfl
theorem c4_spec : Gives Tryz.prog g 147 [] D M (.bool true) := by
  refine Gives.enter Tryz.func147 rfl Tryz.ntmps147 ?_; refine R.sq ?_; refine R.rg ?_; refine R.as ?_; refine R.nl ?_; refine R.hs (e' := []) ?_; refine R.sq ?_; refine R.rg ?_; refine R.as ?_; refine R.nl ?_; refine R.hs (e' := [(0, _)]) ?_; exact R.rt (RV.t .nil) 0 rfl
theorem c5_spec (hn : xs.length ≤ 1000) (h : CsD D b 0 6 (Ht.cells own)) (h' : B1 D b' a) (ha : Vws D a xs) : Gives Tryz.prog g 148 [ptr b, ptr b'] D M (.bool (own.null || decide (0 < (someV own 1 xs).length))) := by
  have hle : Le D D := Le.rfl'
  refine Gives.enter Tryz.func148 rfl Tryz.ntmps148 ?_; refine R.sq ?_; refine R.rg ?_; refine R.as ?_; refine R.nl ?_; refine R.hs (e' := [(0, _), (1, _)]) ?_; refine R.sq ?_; refine R.rg ?_; refine R.fa Tryz.runUnderlying23 Tryz.sizeOf4 ?_; refine R.ldD Tryz.isAgg4 ?_; refine R.mv ?_; refine R.gd (fun zg1 => ?_) (fun zg1 => ?_)
  ·refine R.ldD Tryz.isAgg24 ?_; refine R.gY (zg1) ?_; refine R.lAD 6 Tryz.isAgg23 Tryz.sizeOf23 ?_; refine R.gY (zg1) ?_; refine R.gt Tryz.call24 (downs_spec own hn ha) (fun zr1_5 zD2 hzD2 hzr1_5 => ?_)
   try replace hle := hle.mono hzD2
   obtain ⟨zs, hzp, hzI⟩ := hzr1_5
   have hzl := hzp.length_eq
   refine R.gY (zg1) ?_; refine R.ll (hzI) Tryz.runUnderlying56 ?_; refine R.gY (zg1) ?_; refine R.cm ?_; refine R.pF (zg1) ?_; refine R.as ?_; refine R.nl ?_; refine R.hs (e' := [(2, _)]) ?_; refine R.rl (RV.t .nil) 0 hle (congrArg Value.bool ?_)
   simp_all
  ·refine R.gF (zg1) ?_; refine R.gF (zg1) ?_; refine R.gF (zg1) ?_; refine R.gF (zg1) ?_; refine R.pT (zg1) ?_; refine R.as ?_; refine R.nl ?_; refine R.hs (e' := [(2, _)]) ?_; refine R.rl (RV.t .nil) 0 hle (congrArg Value.bool ?_)
   simp_all
theorem c6_spec (h : B1 D b lv) (hL : Lvs D lv ls) : Gives Tryz.prog g 149 [ptr b] D M (.bool (decide (ls.length = 0))) := by
  refine Gives.enter Tryz.func149 rfl Tryz.ntmps149 ?_; refine R.sq ?_; refine R.rg ?_; refine R.as ?_; refine R.nl ?_; refine R.hs (e' := [(0, _)]) ?_; refine R.sq ?_; refine R.rg ?_; refine R.ldD Tryz.isAgg116 ?_; refine R.ll (hL) Tryz.runUnderlying116 ?_; refine R.cm ?_; refine R.as ?_; refine R.nl ?_; refine R.hs (e' := [(1, _)]) ?_; refine R.rt (RV.t .nil) 0 (congrArg Value.bool ?_)
  rw [decide_eq_decide]; omega
theorem c7_spec (h : B1 D b (.bool lost)) : Gives Tryz.prog g 150 [ptr b] D M (.bool lost) := by
  refine Gives.enter Tryz.func150 rfl Tryz.ntmps150 ?_; refine R.sq ?_; refine R.rg ?_; refine R.as ?_; refine R.nl ?_; refine R.hs (e' := [(0, _)]) ?_; refine R.sq ?_; refine R.rg ?_; refine R.ldD Tryz.isAgg4 ?_; refine R.as ?_; refine R.nl ?_; refine R.hs (e' := [(1, _)]) ?_; exact R.rt (RV.t .nil) 0 rfl
theorem c8_spec (h : B1 D b lv) (hL : Lvs D lv ls) : Gives Tryz.prog g 151 [ptr b] D M (.bool (decide (1 < ls.length))) := by
  refine Gives.enter Tryz.func151 rfl Tryz.ntmps151 ?_; refine R.sq ?_; refine R.rg ?_; refine R.as ?_; refine R.nl ?_; refine R.hs (e' := [(0, _)]) ?_; refine R.sq ?_; refine R.rg ?_; refine R.ldD Tryz.isAgg116 ?_; refine R.ll (hL) Tryz.runUnderlying116 ?_; refine R.cm ?_; refine R.as ?_; refine R.nl ?_; refine R.hs (e' := [(1, _)]) ?_; refine R.rt (RV.t .nil) 0 (congrArg Value.bool ?_)
  rw [decide_eq_decide]; omega
theorem c9_spec (hok : okVs xs = true) (h : CsD D b 0 3 (Lv.cells top)) (h' : B1 D b' a) (h2 : B1 D b2 (.int .i64 me)) (ha : Vws D a xs) :
    Gives Tryz.prog g 152 [ptr b, ptr b', ptr b2] D M (.tuple #[.agg (Ht.cells (atO top (leastV xs top - 1) me).1).toArray, .int .i64 (atO top (leastV xs top - 1) me).2]) := by
  have hrg := leastV_range xs top
  refine Gives.enter Tryz.func152 rfl Tryz.ntmps152 ?_; refine R.sq ?_; refine R.rg ?_; refine R.alA Tryz.zeroValue23 (fun zb1 hzb1 => ?_); refine R.as ?_; refine R.nl ?_; refine R.hs (e' := [(0, _), (1, _), (2, _), (3, _)]) ?_; refine R.sq ?_; refine Run.drawC Grow.eq 9 [(0, _), (1, _), (2, _), (3, _)] mix (by kernel_rfl) (by repeat (first | exact trivial | refine ⟨rfl, ?_⟩)) ?_; apply TC.val []; exact rfl; kernel_rfl
  ·rintro _ rfl ; refine R.lAD 3 Tryz.isAgg28 Tryz.sizeOf28 ?_; refine R.nl ?_; exact Run.loc rfl rfl rfl
  apply TC.val []; exact rfl; kernel_rfl
  ·rintro _ rfl ; refine R.ldD Tryz.isAgg24 ?_; refine R.nl ?_; exact Run.loc rfl rfl rfl
  apply TC.val []; exact rfl; kernel_rfl
  ·rintro _ rfl ; refine R.lAD 3 Tryz.isAgg28 Tryz.sizeOf28 ?_; refine R.nl ?_; exact Run.loc rfl rfl rfl
  apply TC.val [1, 0]; exact rfl; kernel_rfl
  ·rintro _ rfl _ rfl _ rfl; refine R.cg Tryz.call153 (least_spec top hok ha) ?_; refine R.nl ?_; exact Run.loc rfl rfl rfl
  apply TC.val [0]; exact rfl; kernel_rfl
  ·rintro _ rfl _ rfl; refine R.sb ?_; refine R.nl ?_; exact Run.loc rfl rfl rfl
  apply TC.val []; exact rfl; kernel_rfl
  ·rintro _ rfl ; refine R.ldD Tryz.isAgg3 ?_; refine R.nl ?_; exact Run.loc rfl rfl rfl
  apply TC.val [5, 1, 0]; exact rfl; kernel_rfl
  ·rintro _ rfl _ rfl _ rfl _ rfl; refine R.cg Tryz.call49 (hAt_spec top (leastV xs top - 1) me) ?_; refine R.nl ?_; exact Run.loc rfl rfl rfl
  apply TC.val [0]; exact rfl; kernel_rfl
  ·rintro _ rfl _ rfl; refine R.ex ?_; refine R.nl ?_; exact Run.loc rfl rfl rfl
  apply TC.val [1]; exact rfl; kernel_rfl
  ·rintro _ rfl _ rfl; refine R.ex ?_; refine R.nl ?_; exact Run.loc rfl rfl rfl
  refine TC.fin (by rfl) ?_; rintro _ rfl _ rfl _ rfl _ rfl _ rfl _ rfl _ rfl _ rfl _ rfl _ rfl; refine R.st Tryz.sizeOf23 ?_; refine R.as ?_; refine R.nl ?_; refine R.hs (e' := [(3, _), (4, _)]) ?_; exact R.rt (RV.a Tryz.isAgg23 Tryz.sizeOf23 (RV.t .nil)) 1 rfl
theorem c10_spec (h : CsD D b 0 3 (Lv.cells top)) : Gives Tryz.prog g 154 [ptr b] D M (.bool (decide (top.r = 0))) := by
  refine Gives.enter Tryz.func154 rfl Tryz.ntmps154 ?_; refine R.sq ?_; refine R.rg ?_; refine R.as ?_; refine R.nl ?_; refine R.hs (e' := [(0, _)]) ?_; refine R.sq ?_; refine R.rg ?_; refine R.fa Tryz.runUnderlying28 Tryz.sizeOf3 ?_; refine R.ldD Tryz.isAgg3 ?_; refine R.cm ?_; refine R.as ?_; refine R.nl ?_; refine R.hs (e' := [(1, _)]) ?_; exact R.rt (RV.t .nil) 0 rfl
theorem c11_spec (h : CsD D b 0 3 (Lv.cells top)) (h' : B1 D b' (.int .i64 me)) : Gives Tryz.prog g 155 [ptr b, ptr b'] D M (.tuple #[.agg (Ht.cells (atO top 0 me).1).toArray, .int .i64 (atO top 0 me).2]) := by
  refine Gives.enter Tryz.func155 rfl Tryz.ntmps155 ?_; refine R.sq ?_; refine R.rg ?_; refine R.alA Tryz.zeroValue23 (fun zb1 hzb1 => ?_); refine R.as ?_; refine R.nl ?_; refine R.hs (e' := [(0, _), (1, _), (2, _)]) ?_; refine R.sq ?_; refine R.rg ?_; refine R.lAD 3 Tryz.isAgg28 Tryz.sizeOf28 ?_; refine R.ldD Tryz.isAgg3 ?_; refine R.cg Tryz.call49 (hAt_spec top 0 me) ?_; refine R.ex ?_; refine R.ex ?_; refine R.st Tryz.sizeOf23 ?_; refine R.as ?_; refine R.nl ?_; refine R.hs (e' := [(2, _), (3, _)]) ?_; exact R.rt (RV.a Tryz.isAgg23 Tryz.sizeOf23 (RV.t .nil)) 1 rfl
theorem c12_spec (h : CsD D b 0 3 (Lv.cells top)) (h' : B1 D b' (.int .i64 me)) : Gives Tryz.prog g 156 [ptr b, ptr b'] D M (.bool (decide (top.oid = me))) := by
  refine Gives.enter Tryz.func156 rfl Tryz.ntmps156 ?_; refine R.sq ?_; refine R.rg ?_; refine R.as ?_; refine R.nl ?_; refine R.hs (e' := [(0, _), (1, _)]) ?_; refine R.sq ?_; refine R.rg ?_; refine R.fa Tryz.runUnderlying28 Tryz.sizeOf3 ?_; refine R.ldD Tryz.isAgg3 ?_; refine R.ldD Tryz.isAgg3 ?_; refine R.cm ?_; refine R.as ?_; refine R.nl ?_; refine R.hs (e' := [(2, _)]) ?_; exact R.rt (RV.t .nil) 0 rfl
end
end Go.Proofs.YtgdpjpmjcpieiaaGreat

/- slices.Compact at levels: what is next to one another stays once. No condition. -/
namespace Go.Proofs.YtgdpjpmjcpieiaaGreat
open Go
set_option linter.unusedVariables false
set_option linter.unusedSimpArgs false
set_option maxRecDepth 100000
set_option maxHeartbeats 0
theorem compL_snoc : ∀ (l : List Lv) (y x : Lv), compL (l ++ [y, x]) = if y = x then compL (l ++ [y]) else compL (l ++ [y]) ++ [x]
  | [], y, x => by by_cases h : y = x <;> simp [compL, h]
  | [a], y, x => by
    by_cases h : a = y <;> by_cases h2 : y = x <;> simp [compL, h, h2]
  | a :: b :: l, y, x => by
    have ih := compL_snoc (b :: l) y x
    simp only [List.cons_append] at ih ⊢
    rw [compL, ih]
    conv => rhs; rw [compL]
    by_cases h : a = b <;> by_cases h2 : y = x <;> simp [h, h2]
theorem comp_step {xs : List Lv} {i : Nat} {x y : Lv} (hx : xs[i + 1]? = some x) (hy : xs[i]? = some y) : compL (xs.take (i + 2)) = if y = x then compL (xs.take (i + 1)) else compL (xs.take (i + 1)) ++ [x] := by
  rw [take_succ' hx, take_succ' hy, List.append_assoc]
  exact compL_snoc _ y x
theorem comp_one {xs : List Lv} : compL (xs.take 1) = xs.take 1 := by
  cases xs with
  | nil => rfl
  | cons a r => rfl
theorem comp_small {xs : List Lv} (h : xs.length < 2) : compL xs = xs := by
  match xs with
  | [] => rfl
  | [a] => rfl
  | a :: b :: r => simp at h; omega
theorem compact_spec {g : Gl} {D : Dict} {M q : MList} {v : Value} {xs : List Lv} (hn : xs.length ≤ 1000000) (hO : LR v xs q) :
    Spec Tryz.prog g 158 [v] D (q ++ M) (fun u D' M' => D' = D ∧ ∃ q', LR u (compL xs) q' ∧ M' = q' ++ M) := by
  obtain ⟨A, c, rfl, hl0⟩ := hO.form
  refine Spec.enter Tryz.func158 rfl Tryz.ntmps158 rfl ?_; refine R.sq ?_; refine R.rg ?_; refine R.as ?_; refine R.nl ?_; refine R.hs (e' := [(0, _)]) ?_; refine R.sq ?_; refine R.sq ?_; refine R.rg ?_; refine R.mv ?_; refine R.ln Tryz.runUnderlying116 ?_; refine R.cm ?_; refine R.nl ?_; refine R.hs (e' := [(0, _), (8, _)]) ?_; refine R.cd (fun zc1 => ?_) (fun zc1 => ?_)
  ·
   have hlt : xs.length < 2 := by simp at zc1; omega
   refine R.sq ?_; refine R.rg ?_; refine R.mv ?_; refine R.as ?_; refine R.nl ?_; refine R.hs (e' := [(2, _)]) ?_
   first | exact R.rk (RV.t .nil) 0 ⟨rfl, q', by rw [hwt] at hW2; exact hW2, rfl⟩ | exact R.rk (RV.t .nil) 0 ⟨rfl, q, by rw [comp_small hlt]; exact hO, rfl⟩ | exact R.rk (RV.t .nil) 0 ⟨rfl, q, by rw [hfin]; exact hO, rfl⟩
  ·
   have hge : 2 ≤ xs.length := by simp at zc1; omega
   obtain ⟨b, cc, cur, hq, hcap, hvc⟩ : ∃ b cc cur, q = [(b, .cells cur 28 (0, 0))] ∧ xs.length ≤ cc ∧ (Value.slice A xs.length c : Value) = .slice (some ⟨b, 0, none⟩) xs.length cc := by
     rcases hO.2 with ⟨h1, h2, _⟩ | ⟨b, cap, cur, h1, h2, h3, _⟩
     · omega
     · exact ⟨b, cap, cur, h2, h3, h1⟩
   injection hvc with e1 _ e3
   subst e1; subst e3
   clear hq
   refine Run.skip ?_; refine R.sq ?_; refine R.sq ?_; refine R.rg ?_; refine R.as ?_; refine R.nl ?_; refine R.hs (e' := [(0, _), (3, _)]) ?_; refine Run.block ?_; refine Run.loop (ι := Nat) [(0, _)] (fun i => [(3, .int .i64 ((i : Int) + 1))]) (fun _ => D) (fun _ => q ++ M) (fun i => i + 1 ≤ xs.length ∧ compL (xs.take (i + 1)) = xs.take (i + 1)) (fun i => xs.length - i) (0) (by repeat (first | exact trivial | refine ⟨rfl, ?_⟩)) ?h0 (by repeat (first | exact trivial | refine ⟨rfl, ?_⟩)) (fun w hs => hs) ?_
   case h0 => exact ⟨by omega, comp_one⟩
   rintro i ⟨hi, hpre⟩; refine R.sq ?_; refine R.sq ?_; refine R.rg ?_; refine R.mv ?_; refine R.mv ?_; refine R.ln Tryz.runUnderlying116 ?_; refine R.cm ?_; refine R.nl ?_; refine R.hs (e' := [(0, _), (3, _), (13, _)]) ?_; refine R.cd (fun zc2 => ?_) (fun zc2 => ?_)
   ·
    have hlt : i + 1 < xs.length := by simp at zc2; omega
    obtain ⟨x, hgx⟩ := get_of_lt hlt
    obtain ⟨y, hgy⟩ := get_of_lt (xs := xs) (i := i) (by omega)
    obtain ⟨b1, o1, hI1, hc1⟩ := hO.at (D := D) (M := q ++ M) (fun p hp => List.mem_append_left _ hp) Lv.len hgx
    obtain ⟨b2, o2, hI2, hc2⟩ := hO.at (D := D) (M := q ++ M) (fun p hp => List.mem_append_left _ hp) Lv.len hgy
    refine Run.skip ?_; refine R.sq ?_; refine Run.block ?_; refine R.sq ?_; refine Run.drawC Grow.eq 9 [(0, _), (3, _)] mix (by kernel_rfl) (by repeat (first | exact trivial | refine ⟨rfl, ?_⟩)) ?_; apply TC.val []; exact rfl; kernel_rfl
    ·rintro _ rfl ; refine R.mv ?_; refine R.nl ?_; exact Run.loc rfl rfl rfl
    apply TC.val []; exact rfl; kernel_rfl
    ·rintro _ rfl ; refine R.mv ?_; refine R.nl ?_; exact Run.loc rfl rfl rfl
    apply TC.val [1, 0]; exact rfl; kernel_rfl
    ·rintro _ rfl _ rfl _ rfl; refine R.ix (hI1) Tryz.runUnderlying116 Tryz.sizeOf28 ?_; refine R.nl ?_; exact Run.loc rfl rfl rfl
    apply TC.val [0]; exact rfl; kernel_rfl
    ·rintro _ rfl _ rfl; refine R.lAD 3 Tryz.isAgg28 Tryz.sizeOf28 ?_; refine R.nl ?_; exact Run.loc rfl rfl rfl
    apply TC.val []; exact rfl; kernel_rfl
    ·rintro _ rfl ; refine R.mv ?_; refine R.nl ?_; exact Run.loc rfl rfl rfl
    apply TC.val []; exact rfl; kernel_rfl
    ·rintro _ rfl ; refine R.mv ?_; refine R.nl ?_; exact Run.loc rfl rfl rfl
    apply TC.val [0]; exact rfl; kernel_rfl
    ·rintro _ rfl _ rfl; refine R.sb ?_; refine R.nl ?_; exact Run.loc rfl rfl rfl
    apply TC.val [2, 0]; exact rfl; kernel_rfl
    ·rintro _ rfl _ rfl _ rfl; refine R.ix (hI2) Tryz.runUnderlying116 Tryz.sizeOf28 ?_; refine R.nl ?_; exact Run.loc rfl rfl rfl
    apply TC.val [0]; exact rfl; kernel_rfl
    ·rintro _ rfl _ rfl; refine R.lAD 3 Tryz.isAgg28 Tryz.sizeOf28 ?_; refine R.nl ?_; exact Run.loc rfl rfl rfl
    refine TC.fin (by rfl) ?_; rintro _ rfl _ rfl _ rfl _ rfl _ rfl _ rfl _ rfl _ rfl _ rfl _ rfl; refine R.ea Tryz.eqGuardType28 (eqAt28 _ _ _ _ _ _) ?_; refine R.nl ?_; refine R.hs (e' := [(0, _), (3, _), (25, _)]) ?_; refine R.cd (fun zc13 => ?_) (fun zc13 => ?_)
    ·
     have heq : x = y := by rw [Lv.ext']; simpa using zc13
     refine R.sq ?_; refine R.rg ?_; refine R.mv ?_; refine R.mv ?_; refine R.cutLo (i + 1) Tryz.runUnderlying116 Tryz.sizeOf28 ?_; refine R.as ?_; refine R.nl ?_; refine R.hs (e' := [(0, _), (3, _), (4, _)]) ?_; refine R.sq ?_; refine R.sq ?_; refine R.rg ?_; refine R.as ?_; refine R.nl ?_; refine R.hs (e' := [(0, _), (3, _), (4, _), (5, _)]) ?_; refine Run.block ?_
     refine Run.loop (ι := Nat × Nat × List Lv × MList) [(0, _), (4, _)] (fun p => [(5, .int .i64 ((p.1 : Int) + 1)), (3, .int .i64 (p.2.1 : Int))]) (fun _ => D) (fun p => p.2.2.2 ++ M) (fun p => i + 1 + p.1 + 1 ≤ xs.length ∧ p.2.1 ≤ i + 1 + p.1 ∧ p.2.2.1.length = xs.length ∧ p.2.2.1.take p.2.1 = compL (xs.take (i + 1 + p.1 + 1)) ∧ p.2.2.1.drop (i + 1 + p.1) = xs.drop (i + 1 + p.1) ∧ LR (.slice (some ⟨b, 0, none⟩) xs.length c) p.2.2.1 p.2.2.2) (fun p => xs.length - p.1) ((0, i + 1, xs, q)) (by repeat (first | exact trivial | refine ⟨rfl, ?_⟩)) ?h0 (by repeat (first | exact trivial | refine ⟨rfl, ?_⟩)) (fun w hs => hs) ?_
     case h0 => exact ⟨by omega, by simp, rfl, by simp only [Nat.add_zero]; rw [comp_step hgx hgy, if_pos heq.symm, hpre], rfl, hO⟩
     rintro ⟨j, kk, ws, q2⟩ ⟨hj, hkk, hwl, hwt, hwd, hW⟩
     simp only at hj hkk hwl hwt hwd hW
     refine R.sq ?_; refine R.sq ?_; refine R.rg ?_; refine R.mv ?_; refine R.mv ?_; refine R.ln Tryz.runUnderlying116 ?_; refine R.cm ?_; refine R.nl ?_; refine R.hs (e' := [(0, _), (3, _), (4, _), (5, _), (32, _)]) ?_; refine R.cd (fun zc14 => ?_) (fun zc14 => ?_)
     ·
      have hlt2 : i + 1 + j + 1 < xs.length := by simp at zc14; omega
      obtain ⟨x2, hgx2⟩ := get_of_lt hlt2
      obtain ⟨y2, hgy2⟩ := get_of_lt (xs := xs) (i := i + 1 + j) (by omega)
      have hwx : ws[i + 1 + j + 1]? = some x2 := by have := congrArg (fun l => l[1]?) hwd; simpa [hgx2] using this
      have hwy : ws[i + 1 + j]? = some y2 := by have := congrArg (fun l => l[0]?) hwd; simpa [hgy2] using this
      obtain ⟨b3, o3, hI3, hc3⟩ := hW.at (D := D) (M := q2 ++ M) (fun p hp => List.mem_append_left _ hp) Lv.len hwx
      obtain ⟨b4, o4, hI4, hc4⟩ := hW.at (D := D) (M := q2 ++ M) (fun p hp => List.mem_append_left _ hp) Lv.len hwy
      obtain ⟨b5, o5, hI5, hc5⟩ := hW.at (D := D) (M := q2 ++ M) (fun p hp => List.mem_append_left _ hp) Lv.len (i := kk) (x := ws[kk]) (List.getElem?_eq_getElem (by omega))
      have hI3' : IxAt (.slice (some ⟨b, 0 + (i + 1) * 3, none⟩) (xs.length - (i + 1)) (c - (i + 1))) (j + 1) 3 b3 o3 := by
        obtain ⟨o0, l, c', e1, e2, e3⟩ := hI3
        injection e1 with e1 _ _; injection e1 with e1; injection e1 with e4 e5 _
        subst e4; subst e5; exact ⟨_, _, _, rfl, by omega, by rw [e3]; omega⟩
      have hI4' : IxAt (.slice (some ⟨b, 0 + (i + 1) * 3, none⟩) (xs.length - (i + 1)) (c - (i + 1))) j 3 b4 o4 := by
        obtain ⟨o0, l, c', e1, e2, e3⟩ := hI4
        injection e1 with e1 _ _; injection e1 with e1; injection e1 with e4 e5 _
        subst e4; subst e5; exact ⟨_, _, _, rfl, by omega, by rw [e3]; omega⟩
      refine Run.skip ?_; refine R.sq ?_; refine Run.block ?_; refine R.sq ?_; refine Run.drawC Grow.eq 9 [(0, _), (3, _), (4, _), (5, _)] mix (by kernel_rfl) (by repeat (first | exact trivial | refine ⟨rfl, ?_⟩)) ?_; apply TC.val []; exact rfl; kernel_rfl
      ·rintro _ rfl ; refine R.mv ?_; refine R.nl ?_; exact Run.loc rfl rfl rfl
      apply TC.val []; exact rfl; kernel_rfl
      ·rintro _ rfl ; refine R.mv ?_; refine R.nl ?_; exact Run.loc rfl rfl rfl
      apply TC.val [1, 0]; exact rfl; kernel_rfl
      ·rintro _ rfl _ rfl _ rfl; refine R.ix (hI3') Tryz.runUnderlying116 Tryz.sizeOf28 ?_; refine R.nl ?_; exact Run.loc rfl rfl rfl
      apply TC.val [0]; exact rfl; kernel_rfl
      ·rintro _ rfl _ rfl; refine R.lAD 3 Tryz.isAgg28 Tryz.sizeOf28 ?_; refine R.nl ?_; exact Run.loc rfl rfl rfl
      apply TC.val []; exact rfl; kernel_rfl
      ·rintro _ rfl ; refine R.mv ?_; refine R.nl ?_; exact Run.loc rfl rfl rfl
      apply TC.val []; exact rfl; kernel_rfl
      ·rintro _ rfl ; refine R.mv ?_; refine R.nl ?_; exact Run.loc rfl rfl rfl
      apply TC.val [0]; exact rfl; kernel_rfl
      ·rintro _ rfl _ rfl; refine R.sb ?_; refine R.nl ?_; exact Run.loc rfl rfl rfl
      apply TC.val [2, 0]; exact rfl; kernel_rfl
      ·rintro _ rfl _ rfl _ rfl; refine R.ix (hI4') Tryz.runUnderlying116 Tryz.sizeOf28 ?_; refine R.nl ?_; exact Run.loc rfl rfl rfl
      apply TC.val [0]; exact rfl; kernel_rfl
      ·rintro _ rfl _ rfl; refine R.lAD 3 Tryz.isAgg28 Tryz.sizeOf28 ?_; refine R.nl ?_; exact Run.loc rfl rfl rfl
      refine TC.fin (by rfl) ?_; rintro _ rfl _ rfl _ rfl _ rfl _ rfl _ rfl _ rfl _ rfl _ rfl _ rfl; refine R.na Tryz.eqGuardType28 (eqAt28 _ _ _ _ _ _) ?_; refine R.nl ?_; refine R.hs (e' := [(0, _), (3, _), (4, _), (5, _), (44, _)]) ?_; refine R.cd (fun zc25 => ?_) (fun zc25 => ?_)
      ·
       have hne2 : x2 ≠ y2 := by rw [ne_eq, Lv.ext']; simp at zc25; omega
       have hst1 : (ws.set kk x2).take (kk + 1) = compL (xs.take (i + 1 + (j + 1) + 1)) := by
         rw [show i + 1 + (j + 1) + 1 = i + 1 + j + 2 by omega, comp_step hgx2 hgy2, if_neg (fun e => hne2 e.symm), ← hwt]
         rw [take_succ' (x := x2) (by rw [List.getElem?_set_self (by omega)]), List.take_set_of_le (Nat.le_refl _)]
       have hst2 : (ws.set kk x2).drop (i + 1 + (j + 1)) = xs.drop (i + 1 + (j + 1)) := by
         have := congrArg (List.drop 1) hwd
         rw [List.drop_drop, List.drop_drop] at this
         rw [List.drop_set_of_lt (by omega)]
         rw [show i + 1 + (j + 1) = i + 1 + j + 1 by omega]; exact this
       refine R.sq ?_; refine R.rg ?_; refine R.mv ?_; refine R.mv ?_; refine R.mv ?_; refine R.mv ?_; refine R.ix (hI3') Tryz.runUnderlying116 Tryz.sizeOf28 ?_; refine R.lAD 3 Tryz.isAgg28 Tryz.sizeOf28 ?_; refine R.ix (hI5) Tryz.runUnderlying116 Tryz.sizeOf28 ?_; refine R.so x2 hW hI5 Lv.len Tryz.sizeOf28 (fun q' hW2 => ?_); refine R.nl ?_; refine R.hs (e' := [(0, _), (3, _), (4, _), (5, _)]) ?_; refine R.rg ?_; refine R.mv ?_; refine R.ad ?_; refine R.as ?_; refine R.nl ?_; refine R.hs (e' := [(0, _), (3, _), (4, _), (5, _)]) ?_; refine Run.endBlock ?_; refine R.rg ?_; refine R.mv ?_; refine R.ad ?_; refine R.as ?_; refine R.nl ?_; refine R.hs (e' := [(0, _), (3, _), (4, _), (5, _)]) ?_
       first | exact Run.again (j + 1, kk + 1, ws.set kk x2, q') ⟨by simp <;> omega, by simp <;> omega, by simp [hwl], hst1, hst2, by simpa [hwl] using hW2⟩ (by simp <;> omega) (by refine ⟨by congr 2, by congr 2, ?_⟩; repeat (first | exact trivial | refine ⟨rfl, ?_⟩)) (fun w hs => hs) | exact Run.again (j + 1, kk, ws, q2) ⟨by simp <;> omega, by simp <;> omega, hwl, hst1, hst2, hW⟩ (by simp <;> omega) (by refine ⟨by congr 2, rfl, ?_⟩; repeat (first | exact trivial | refine ⟨rfl, ?_⟩)) (fun w hs => hs)
      ·
       have heq2 : x2 = y2 := by rw [Lv.ext']; simpa using zc25
       have hst1 : ws.take kk = compL (xs.take (i + 1 + (j + 1) + 1)) := by
         rw [show i + 1 + (j + 1) + 1 = i + 1 + j + 2 by omega, comp_step hgx2 hgy2, if_pos heq2.symm, ← hwt]
       have hst2 : ws.drop (i + 1 + (j + 1)) = xs.drop (i + 1 + (j + 1)) := by
         have := congrArg (List.drop 1) hwd
         rw [List.drop_drop, List.drop_drop] at this
         rw [show i + 1 + (j + 1) = i + 1 + j + 1 by omega]; exact this
       refine Run.skip ?_; refine Run.endBlock ?_; refine R.rg ?_; refine R.mv ?_; refine R.ad ?_; refine R.as ?_; refine R.nl ?_; refine R.hs (e' := [(0, _), (3, _), (4, _), (5, _)]) ?_
       first | exact Run.again (j + 1, kk + 1, ws.set kk x2, q') ⟨by simp <;> omega, by simp <;> omega, by simp [hwl], hst1, hst2, by simpa [hwl] using hW2⟩ (by simp <;> omega) (by refine ⟨by congr 2, by congr 2, ?_⟩; repeat (first | exact trivial | refine ⟨rfl, ?_⟩)) (fun w hs => hs) | exact Run.again (j + 1, kk, ws, q2) ⟨by simp <;> omega, by simp <;> omega, hwl, hst1, hst2, hW⟩ (by simp <;> omega) (by refine ⟨by congr 2, rfl, ?_⟩; repeat (first | exact trivial | refine ⟨rfl, ?_⟩)) (fun w hs => hs)
     ·
      have hjn : i + 1 + j + 1 = xs.length := by simp at zc14; omega
      rw [hjn, List.take_length] at hwt
      refine Run.exit rfl ?_; refine R.sq ?_; refine R.rg ?_; refine R.mv ?_; refine R.mv ?_; refine R.cutLo kk Tryz.runUnderlying116 Tryz.sizeOf28 ?_; refine R.clr (off := 0 + kk * 3) kk hW Lv.len Tryz.runUnderlying116 Tryz.zeroValue28 (zc := zc28) rfl (by decide) rfl (by omega) (by omega) (fun q' hW2 => ?_) (hx := by rw [hwl]; rfl); refine R.nl ?_; refine R.hs (e' := [(0, _), (3, _)]) ?_; refine R.sq ?_; refine R.rg ?_; refine R.mv ?_; refine R.mv ?_; refine R.cutHi kk Tryz.runUnderlying116 Tryz.sizeOf28 ?_; refine R.as ?_; refine R.nl ?_; refine R.hs (e' := [(2, _)]) ?_
      first | exact R.rk (RV.t .nil) 0 ⟨rfl, q', by rw [hwt] at hW2; exact hW2, rfl⟩ | exact R.rk (RV.t .nil) 0 ⟨rfl, q, by rw [comp_small hlt]; exact hO, rfl⟩ | exact R.rk (RV.t .nil) 0 ⟨rfl, q, by rw [hfin]; exact hO, rfl⟩
    ·
     have hne : x ≠ y := by rw [ne_eq, Lv.ext']; simp at zc13; omega
     refine Run.skip ?_; refine Run.endBlock ?_; refine R.rg ?_; refine R.mv ?_; refine R.ad ?_; refine R.as ?_; refine R.nl ?_; refine R.hs (e' := [(0, _), (3, _)]) ?_; exact Run.again (i + 1) ⟨by omega, by rw [comp_step hgx hgy, if_neg (fun e => hne e.symm), hpre, take_succ' hgx]⟩ (by omega) (by refine ⟨by congr 2, ?_⟩; repeat (first | exact trivial | refine ⟨rfl, ?_⟩)) (fun w hs => hs)
   ·
    have hin : i + 1 = xs.length := by simp at zc2; omega
    have hfin : compL xs = xs := by rw [hin, List.take_length] at hpre; exact hpre
    refine Run.exit rfl ?_; refine R.sq ?_; refine R.rg ?_; refine R.mv ?_; refine R.as ?_; refine R.nl ?_; refine R.hs (e' := [(2, _)]) ?_
    first | exact R.rk (RV.t .nil) 0 ⟨rfl, q', by rw [hwt] at hW2; exact hW2, rfl⟩ | exact R.rk (RV.t .nil) 0 ⟨rfl, q, by rw [comp_small hlt]; exact hO, rfl⟩ | exact R.rk (RV.t .nil) 0 ⟨rfl, q, by rw [hfin]; exact hO, rfl⟩
end Go.Proofs.YtgdpjpmjcpieiaaGreat

/- slices.SortFunc at a row of one's own: the shelf's contract in the engine's words. No condition. -/
namespace Go.Proofs.YtgdpjpmjcpieiaaGreat
open Go Go.Sort
set_option linter.unusedVariables false
set_option linter.unusedSimpArgs false
set_option maxRecDepth 100000
section
variable {α : Type} [Inhabited α] {k : Nat} {enc : α → List Value}
theorem flatK_flat (hk : ∀ x, (enc x).length = k) (xs : List α) : (flatK enc k xs.toArray).toList = xs.flatMap enc := by
  apply List.ext_getElem?
  intro t
  by_cases ht : t < xs.length * k
  · have k0 : 0 < k := by
      rcases Nat.eq_zero_or_pos k with h | h
      · subst h; simp at ht
      · exact h
    have h1 : t / k < xs.length := Nat.div_lt_of_lt_mul (by rw [Nat.mul_comm]; exact ht)
    have h2 : t % k < k := Nat.mod_lt _ k0
    have h3 := flat_at hk xs (t / k) (t % k) xs[t / k] (List.getElem?_eq_getElem h1) h2
    rw [Nat.div_add_mod'] at h3
    rw [h3, Array.getElem?_toList]
    simp [flatK, ht, h1, hk, h2]
  · rw [List.getElem?_eq_none (by simp; omega), List.getElem?_eq_none (by rw [flat_len hk]; omega)]
theorem holdsK_row (hk : ∀ x, (enc x).length = k) {w : World} {b : Nat} {cur : Array Value} {T : TypeId} {xs : List α} (hb : w.heap[b]? = some (.cells cur T (0, 0))) (ht : cur.toList.take (xs.length * k) = xs.flatMap enc) : HoldsK enc k w b 0 xs.toArray := by
  intro j hj
  have hj' : j < xs.length * k := by simpa using hj
  refine ⟨?_, by simp [World.frozen?, hb]⟩
  have h1 : (cur.toList.take (xs.length * k))[j]? = ((flatK enc k xs.toArray).toList)[j]? := by rw [ht, flatK_flat hk]
  rw [List.getElem?_take_of_lt hj', Array.getElem?_toList, Array.getElem?_toList] at h1
  simp only [World.cell?, hb, Nat.zero_add, Option.isSome_none, Bool.false_eq_true, if_false, h1]
  simp [hj']
theorem heap_sortK {w : World} {b n : Nat} {os : Array Obj} {cur : Array Value} {T : TypeId} (d : Array α) (hb : w.heap[b]? = some (.cells cur T (0, 0))) :
    (sortWorldK enc k w b 0 n d os).heap[b]? = some (.cells (putCells id 0 (flatK enc k d) cur) T (0, 0)) := by
  have hg : b < w.heap.size := (Array.getElem?_eq_some_iff.1 hb).1
  unfold sortWorldK putRowK
  rw [heap_grow_old _ _ (by simpa using hg)]
  simp [putRow, mapBlock, Sort.ahead, Array.getElem?_modify, hb, onCells]
theorem heap_sortK_other {w : World} {b n c : Nat} {os : Array Obj} (d : Array α) (hc : c < w.heap.size) (hne : c ≠ b) : (sortWorldK enc k w b 0 n d os).heap[c]? = w.heap[c]? := by
  unfold sortWorldK putRowK
  rw [heap_grow_old _ _ (by simpa using hc)]
  simp [putRow, mapBlock, Sort.ahead, Array.getElem?_modify, Ne.symm hne]
theorem take_putK (hk : ∀ x, (enc x).length = k) (cur : Array Value) (ys : List α) (h : ys.length * k ≤ cur.size) : (putCells id 0 (flatK enc k ys.toArray) cur).toList.take (ys.length * k) = ys.flatMap enc := by
  rw [← flatK_flat hk]
  apply List.ext_getElem?
  intro j
  by_cases hj : j < ys.length * k
  · rw [List.getElem?_take_of_lt hj, Array.getElem?_toList, Array.getElem?_toList]
    simp [putCells, hj, show j < cur.size by omega]
  · rw [List.getElem?_take_eq_none (by omega), List.getElem?_eq_none (by simp; omega)]
theorem perm_of {d d' : Array α} (h : PermIn 0 d.size d d') : d'.toList.Perm d.toList := by
  obtain ⟨h1, _, h2⟩ := h
  have e1 : d'.extract 0 d.size = d' := by rw [← h1]; simp
  have e2 : d.extract 0 d.size = d := by simp
  rw [e1, e2] at h2
  exact h2
theorem sorted_of {lt : α → α → Bool} {d : Array α} (h : SortedIn lt 0 d.size d) : d.toList.Pairwise (fun a b => lt b a = false) := by
  rw [List.pairwise_iff_getElem]
  intro i j hi hj hij
  have := h i j (Nat.zero_le _) hij (by simpa using hj)
  have hi' : i < d.size := by simpa using hi
  have hj' : j < d.size := by simpa using hj
  simpa [getElem!_pos d i hi', getElem!_pos d j hj'] using this
theorem sortF_spec {P : Program} {ρ : Shelf.Ren} {T : TypeId} (L : SlLaysF0.n6 P ρ) (aE : ∀ w, (isAgg (ρ.t 24)).run P w = .ok true w) (zE : ∀ w, (Go.sizeOf (ρ.t 24)).run P w = .ok k w) (hk : ∀ x, (enc x).length = k) (h1 : ∀ x, ∀ v ∈ enc x, v.oneCell' = true)
    (cf : α → α → Int) (hO : SWO (ltOf cf)) (f : FuncId) (cb : List Value) (eg : ∀ args w, (callFunc f args).run P w = .ok (.enter f args) w) {g : Gl} {D : Dict} {q Z : MList} {v : Value} {xs : List α} (ho : OL k enc T v xs q)
    (hcmp : ∀ g' D' x y, Le D D' → Gives P g' f ([.agg (enc x).toArray, .agg (enc y).toArray] ++ cb) D' [] (.int .i64 (cf x y))) (hsz : xs.length ≤ 1000000) :
    Spec P g (ρ.f 6) [v, .func (.func f) #[] cb.toArray] D (q ++ Z) (fun u D' M' => u = .tuple #[] ∧ D' = D ∧ ∃ ys q', OL k enc T v ys q' ∧ ys.Perm xs ∧ ys.Pairwise (fun a b => ltOf cf b a = false) ∧ M' = q' ++ Z) := by
  intro w hs
  rcases ho.2 with ⟨e1, e2, e3⟩ | ⟨b, cap, cur, e1, e2, e3, e4, e5, e6⟩
  · subst e1; subst e3
    have e2' : xs = [] := List.eq_nil_of_length_eq_zero e2
    subst e2'
    refine (AnyF.slices_SortFunc_none L none 0 (.func (.func f) #[] cb.toArray) w).mono fun e w' ⟨h2, h3⟩ => ?_
    subst h3
    exact ⟨_, D, Z, h2, hs, rfl, rfl, [], [], OL.nil, List.Perm.refl _, .nil, rfl⟩
  · subst e1; subst e2
    have hb := hs.mt (b, Obj.cells cur T (0, 0)) (by simp)
    have hblk : b < w.heap.size := (Array.getElem?_eq_some_iff.1 hb).1
    have hbD : D b = none := hs.dis (b, Obj.cells cur T (0, 0)) (by simp)
    have hbZ : ∀ p ∈ Z, p.1 ≠ b := by
      intro p hp he
      have := hs.nd
      simp only [List.cons_append, List.nil_append, List.map_cons, List.nodup_cons] at this
      exact this.1 (List.mem_map.2 ⟨p, hp, he⟩)
    have hC : CmpLays P f cb.toArray enc k cf b 0 xs.toArray.size w := by
      intro m os dk hdk x y
      have := (hcmp (glOf (sortWorldK enc k w b 0 m dk os)) (All (sortWorldK enc k w b 0 m dk os)) x y (fun c o hc => by
        have hne : c ≠ b := fun e => by rw [e, hbD] at hc; cases hc
        have hlt := hs.lt hc
        unfold All
        rw [heap_sortK_other dk hlt hne]; exact hs.imm c o hc)).grown
      have e9 : (#[Value.agg (enc x).toArray, Value.agg (enc y).toArray] ++ cb.toArray : Array Value) = ([Value.agg (enc x).toArray, Value.agg (enc y).toArray] ++ cb).toArray := by simp
      rw [e9]
      exact this
    have e9 : Value.slice (some ⟨b, 0, none⟩) xs.length cap = Value.slice (some ⟨b, 0, none⟩) xs.toArray.size cap := by simp
    have hcon := AnyQ.slices_SortFunc L k aE zE enc hk h1 cf hO f cb.toArray b 0 cap xs.toArray w eg hC (holdsK_row hk hb e6) hblk (by simp; omega)
    rw [e9]
    refine hcon.mono fun e w' ⟨h2, d', n', os', h3, h4, h5⟩ => ?_
    rw [← e9]
    have hp := perm_of h3
    have hl : d'.toList.length = xs.length := by simpa using hp.length_eq
    have hsd : SortedIn (ltOf cf) 0 d'.size d' := by
      have : d'.size = xs.toArray.size := h3.1
      rw [this]; exact h4
    have hd' : d' = d'.toList.toArray := by simp
    have hsize : d'.toList.length * k ≤ cur.size := by rw [hl, e5]; exact Nat.mul_le_mul_right _ e3
    refine ⟨_, D, [(b, Obj.cells (putCells id 0 (flatK enc k d'.toList.toArray) cur) T (0, 0))] ++ Z, h2, ?_, rfl, rfl, d'.toList, _, ⟨by rw [flat_len hk], .inr ⟨b, cap, _, by rw [hl], rfl, by rw [hl]; exact e3, e4, by simp [putCells, e5], take_putK hk cur d'.toList hsize⟩⟩, by simpa using hp, sorted_of hsd, rfl⟩
    rw [h5, hd']
    have hsz' : w.heap.size ≤ (sortWorldK enc k w b 0 n' d'.toList.toArray os').heap.size := by simp [sortWorldK, putRowK]
    refine ⟨hs.os, hs.out, hs.tape, fun c o hc => ?_, fun p hp => ?_, hs.nd, fun p hp => ?_, Nat.le_trans hs.drw (Nat.le_add_right _ _)⟩
    · rw [heap_sortK_other _ (hs.lt hc) (fun e => by rw [e, hbD] at hc; cases hc)]; exact hs.imm c o hc
    · rcases List.mem_cons.1 hp with rfl | hp
      · exact heap_sortK _ hb
      · rw [heap_sortK_other _ (hs.ltM (List.mem_cons_of_mem _ hp)) (hbZ p hp)]; exact hs.mt p (List.mem_cons_of_mem _ hp)
    · rcases List.mem_cons.1 hp with rfl | hp
      · exact hbD
      · exact hs.dis p (List.mem_cons_of_mem _ hp)
end
end Go.Proofs.YtgdpjpmjcpieiaaGreat

/- The levels that are told: the program's answer. No condition. -/
namespace Go.Proofs.YtgdpjpmjcpieiaaGreat
open Go
set_option linter.unusedVariables false
set_option linter.unusedSimpArgs false
set_option maxRecDepth 100000
set_option maxHeartbeats 0
def sortLv_ren : Go.Shelf.Ren := ⟨fun | 6 => 157 | 15 => 168 | 14 => 167 | 28 => 180 | 29 => 181 | 20 => 172 | 21 => 173 | 22 => 174 | 23 => 175 | 24 => 176 | 25 => 177 | 26 => 178 | 27 => 179 | 46 => 182 | 47 => 183 | 48 => 184 | 49 => 185 | 50 => 186 | 57 => 187 | n => n, fun | 22 => 116 | 24 => 28 | 25 => 130 | 3 => 3 | 39 => 97 | 0 => 0 | 53 => 159 | 55 => 161 | 4 => 4 | 46 => 153 | 45 => 152 | 50 => 105 | 5 => 5 | 9 => 9 | 66 => 162 | 70 => 166 | 76 => 168 | 77 => 169 | n => n, fun | n => n⟩
theorem sortLv : Go.Proofs.SlLaysF0.n6 Tryz.prog sortLv_ren := {
  mixed := by kernel_rfl
  f6 := ⟨Tryz.f157.name, by decide, Tryz.func157.trans (congrArg some (by kernel_rfl))⟩
  f14 := ⟨Tryz.f167.name, by decide, Tryz.func167.trans (congrArg some (by kernel_rfl))⟩
  f15 := Tryz.func168.trans (congrArg some (by kernel_rfl))
  f20 := ⟨Tryz.f172.name, by decide, Tryz.func172.trans (congrArg some (by kernel_rfl))⟩
  f21 := ⟨Tryz.f173.name, by decide, Tryz.func173.trans (congrArg some (by kernel_rfl))⟩
  f22 := ⟨Tryz.f174.name, by decide, Tryz.func174.trans (congrArg some (by kernel_rfl))⟩
  f23 := ⟨Tryz.f175.name, by decide, Tryz.func175.trans (congrArg some (by kernel_rfl))⟩
  f24 := ⟨Tryz.f176.name, by decide, Tryz.func176.trans (congrArg some (by kernel_rfl))⟩
  f25 := ⟨Tryz.f177.name, by decide, Tryz.func177.trans (congrArg some (by kernel_rfl))⟩
  f26 := ⟨Tryz.f178.name, by decide, Tryz.func178.trans (congrArg some (by kernel_rfl))⟩
  f27 := ⟨Tryz.f179.name, by decide, Tryz.func179.trans (congrArg some (by kernel_rfl))⟩
  f28 := Tryz.func180.trans (congrArg some (by kernel_rfl))
  f29 := Tryz.func181.trans (congrArg some (by kernel_rfl))
  f46 := ⟨Tryz.f182.name, by decide, Tryz.func182.trans (congrArg some (by kernel_rfl))⟩
  f47 := Tryz.func183.trans (congrArg some (by kernel_rfl))
  f48 := Tryz.func184.trans (congrArg some (by kernel_rfl))
  f49 := ⟨Tryz.f185.name, by decide, Tryz.func185.trans (congrArg some (by kernel_rfl))⟩
  f50 := ⟨Tryz.f186.name, by decide, Tryz.func186.trans (congrArg some (by kernel_rfl))⟩
  f57 := ⟨Tryz.f187.name, by decide, Tryz.func187.trans (congrArg some (by kernel_rfl))⟩
  t0 := Tryz.underlying0
  a0 := Tryz.isAgg0
  z0 := Tryz.sizeOf0
  v0 := Tryz.zeroValue0
  t3 := Tryz.underlying3
  a3 := Tryz.isAgg3
  z3 := Tryz.sizeOf3
  v3 := Tryz.zeroValue3
  t4 := Tryz.underlying4
  a4 := Tryz.isAgg4
  z4 := Tryz.sizeOf4
  v4 := Tryz.zeroValue4
  t5 := Tryz.underlying5
  a5 := Tryz.isAgg5
  z5 := Tryz.sizeOf5
  v5 := Tryz.zeroValue5
  t9 := Tryz.underlying9
  a9 := Tryz.isAgg9
  z9 := Tryz.sizeOf9
  v9 := Tryz.zeroValue9
  t22 := Tryz.underlying116
  a22 := Tryz.isAgg116
  z22 := Tryz.sizeOf116
  v22 := Tryz.zeroValue116
  t25 := Tryz.underlying130
  a25 := Tryz.isAgg130
  z25 := Tryz.sizeOf130
  v25 := Tryz.zeroValue130
  t39 := Tryz.underlying97
  a39 := Tryz.isAgg97
  z39 := Tryz.sizeOf97
  v39 := Tryz.zeroValue97
  t45 := Tryz.underlying152
  a45 := Tryz.isAgg152
  z45 := Tryz.sizeOf152
  v45 := Tryz.zeroValue152
  t46 := Tryz.underlying153
  a46 := Tryz.isAgg153
  z46 := Tryz.sizeOf153
  v46 := Tryz.zeroValue153
  t50 := Tryz.underlying105
  a50 := Tryz.isAgg105
  z50 := Tryz.sizeOf105
  v50 := Tryz.zeroValue105
  t53 := Tryz.underlying159
  a53 := Tryz.isAgg159
  z53 := Tryz.sizeOf159
  v53 := Tryz.zeroValue159
  t55 := Tryz.underlying161
  a55 := Tryz.isAgg161
  z55 := Tryz.sizeOf161
  v55 := Tryz.zeroValue161
  t66 := Tryz.underlying162
  a66 := Tryz.isAgg162
  z66 := Tryz.sizeOf162
  v66 := Tryz.zeroValue162
  t70 := Tryz.underlying166
  a70 := Tryz.isAgg166
  z70 := Tryz.sizeOf166
  v70 := Tryz.zeroValue166
  t76 := Tryz.underlying168
  a76 := Tryz.isAgg168
  z76 := Tryz.sizeOf168
  v76 := Tryz.zeroValue168
  t77 := Tryz.underlying169
  a77 := Tryz.isAgg169
  z77 := Tryz.sizeOf169
  v77 := Tryz.zeroValue169 }
instance : Inhabited Lv := ⟨⟨0, 0, 0⟩⟩
theorem sortLv_spec {g : Gl} {D : Dict} {q Z : MList} {v : Value} {xs : List Lv} (ho : LR v xs q) (hsz : xs.length ≤ 1000000) :
    Spec Tryz.prog g 157 [v, .func (.func 137) #[] #[]] D (q ++ Z) (fun u D' M' => u = .tuple #[] ∧ D' = D ∧ ∃ ys q', LR v ys q' ∧ ys.Perm xs ∧ ys.Pairwise (fun a b => ¬ ltL b a) ∧ M' = q' ++ Z) := by
  refine Spec.mono (sortF_spec sortLv Tryz.isAgg28 Tryz.sizeOf28 Lv.len (fun x => Lv.ones x) ordL swoL 137 [] Tryz.call137 ho (fun g' D' x y _ => ord_spec x y) hsz) ?_
  rintro u D' M' ⟨h1, h2, ys, q', h3, h4, h5, h6⟩
  exact ⟨h1, h2, ys, q', h3, h4, h5.imp (fun {a b} h => by simp only [ltOf, decide_eq_false_iff_not, ordL_lt] at h; exact h), h6⟩
theorem lvlsV_succ {xs : List Vw} {i : Nat} {x : Vw} (h : xs[i]? = some x) : lvlsV (xs.take (i + 1)) = lvlsV (xs.take i) ++ (if toldH x.h then [lvlH x.h] else []) := by
  rw [take_succ' h]
  by_cases ht : toldH x.h = true <;> simp [lvlsV, List.filter_append, ht]
theorem lvlsV_len (xs : List Vw) : (lvlsV xs).length ≤ xs.length := by simp only [lvlsV, List.length_map]; exact List.length_filter_le _ _
theorem levels_spec {g : Gl} {D : Dict} {M : MList} {a : Value} {xs : List Vw} (hn : xs.length ≤ 1000) (ha : Vws D a xs) :
    Gets Tryz.prog g 125 [a] D M (fun v D => Lvs D v (levelsV xs)) := by
  have hla := ha.form.choose_spec.choose_spec.2.2
  refine Gets.enter Tryz.func125 rfl Tryz.ntmps125 ?_; refine R.sq ?_; refine R.rg ?_; refine R.as ?_; refine R.nl ?_; refine R.hs (e' := [(0, _)]) ?_; refine R.sq ?_; refine R.rg ?_; refine R.as ?_; refine R.nl ?_; refine R.hs (e' := [(0, _), (3, _)]) ?_; refine R.sq ?_; refine R.sq ?_; refine R.rg ?_; refine R.mv ?_; refine R.ll (ha) Tryz.runUnderlying24 ?_; refine R.mv ?_; refine R.nl ?_; refine R.hs (e' := [(3, _), (6, _), (7, _), (8, _)]) ?_; refine Run.block ?_; refine Run.loop (ι := Nat × Value × MList) [(6, _), (7, _)] (fun p => [(8, .int .i64 (p.1 : Int)), (3, p.2.1)]) (fun _ => D) (fun p => p.2.2 ++ M) (fun p => p.1 ≤ xs.length ∧ LR p.2.1 (lvlsV (xs.take p.1)) p.2.2) (fun p => xs.length - p.1) ((0, .slice none 0 0, [])) (by repeat (first | exact trivial | refine ⟨rfl, ?_⟩)) ?h0 (by repeat (first | exact trivial | refine ⟨rfl, ?_⟩)) (fun w hs => hs) ?_
  case h0 => exact ⟨Nat.zero_le _, OL.nil⟩
  rintro ⟨i, v, q0⟩ ⟨hi, hO⟩
  simp only at hi hO
  refine R.sq ?_; refine R.rg ?_; refine R.cm ?_; refine R.nl ?_; refine R.hs (e' := [(3, _), (6, _), (7, _), (8, _), (9, _)]) ?_; refine R.sq ?_; refine R.cd (fun zc1 => ?_) (fun zc1 => ?_)
  ·
   have hlt : i < xs.length := by simp at zc1; omega
   obtain ⟨x, hgx⟩ := get_of_lt hlt
   obtain ⟨b1, o1, hI1, hc1⟩ := ha.at Vw.len hgx
   have hlen := lvlsV_len (xs.take i)
   rw [List.length_take] at hlen
   refine Run.skip ?_; refine R.sq ?_; refine Run.block ?_; refine R.sq ?_; refine R.rg ?_; refine R.ix (hI1) Tryz.runUnderlying24 Tryz.sizeOf72 ?_; refine R.lAD 7 Tryz.isAgg72 Tryz.sizeOf72 ?_; refine R.alA Tryz.zeroValue72 (fun b5 hb5 => ?_); refine R.st Tryz.sizeOf72 ?_; refine R.nl ?_; refine R.hs (e' := [(3, _), (5, _), (6, _), (7, _), (8, _)]) ?_; refine R.sq ?_; refine R.rg ?_; refine R.fa Tryz.runUnderlying72 Tryz.sizeOf23 ?_; refine R.lA 6 Tryz.isAgg23 Tryz.sizeOf23 ?_; refine R.cg Tryz.call115 (lTold_spec x.h) ?_; refine R.nl ?_; refine R.hs (e' := [(3, _), (5, _), (6, _), (7, _), (8, _), (14, _)]) ?_; refine R.cd (fun zc3 => ?_) (fun zc3 => ?_)
   ·
    have hs1 : lvlsV (xs.take (i + 1)) = lvlsV (xs.take i) ++ [lvlH x.h] := by rw [lvlsV_succ hgx, if_pos zc3]
    refine R.rg ?_; refine R.mv ?_; refine R.fa Tryz.runUnderlying72 Tryz.sizeOf23 ?_; refine R.lA 6 Tryz.isAgg23 Tryz.sizeOf23 ?_; refine R.cg Tryz.call102 (lvl_spec x.h) ?_; refine R.bs zc28 Tryz.runUnderlying116 Tryz.sizeOf28 Tryz.zeroValue28 (fun zb4 hzb4 => ?_); refine R.ap Tryz.underlying116 info28 (hO) (permQ (a := [_, _])) (Src.lit (List.mem_append_right _ (.head _)) rfl) (by omega) (Lv.ones _) ?_; intro v' q' hO'
    have hO2 : LR v' (lvlsV (xs.take i) ++ [lvlH x.h]) q' := OL.snoc hO' rfl
    refine R.as ?_; refine R.nl ?_; refine R.hs (e' := [(3, _), (6, _), (7, _), (8, _)]) ?_; refine Run.endBlock ?_; refine R.rg ?_; refine R.ad ?_; refine R.mv ?_; refine R.nl ?_; refine R.hs (e' := [(3, _), (6, _), (7, _), (8, _)]) ?_
    first | exact Run.again (i + 1, v', q') ⟨by simp <;> omega, by rw [hs1]; exact hO2⟩ (by simp <;> omega) (by refine ⟨rfl, rfl, ?_⟩; repeat (first | exact trivial | refine ⟨rfl, ?_⟩)) (fun w hs => hs.dropMid (a := [_, _])) | exact Run.again (i + 1, v, q0) ⟨by simp <;> omega, by rw [hs1]; exact hO⟩ (by simp <;> omega) (by refine ⟨rfl, rfl, ?_⟩; repeat (first | exact trivial | refine ⟨rfl, ?_⟩)) (fun w hs => hs.drop 1)
   ·
    have hs1 : lvlsV (xs.take (i + 1)) = lvlsV (xs.take i) := by rw [lvlsV_succ hgx, zc3]; simp
    refine Run.skip ?_; refine Run.endBlock ?_; refine R.rg ?_; refine R.ad ?_; refine R.mv ?_; refine R.nl ?_; refine R.hs (e' := [(3, _), (6, _), (7, _), (8, _)]) ?_
    first | exact Run.again (i + 1, v', q') ⟨by simp <;> omega, by rw [hs1]; exact hO2⟩ (by simp <;> omega) (by refine ⟨rfl, rfl, ?_⟩; repeat (first | exact trivial | refine ⟨rfl, ?_⟩)) (fun w hs => hs.dropMid (a := [_, _])) | exact Run.again (i + 1, v, q0) ⟨by simp <;> omega, by rw [hs1]; exact hO⟩ (by simp <;> omega) (by refine ⟨rfl, rfl, ?_⟩; repeat (first | exact trivial | refine ⟨rfl, ?_⟩)) (fun w hs => hs.drop 1)
  ·
   have hz : xs.take i = xs := by simp at zc1; exact List.take_of_length_le (by omega)
   rw [hz] at hO
   have hlen := lvlsV_len xs
   refine Run.exit rfl ?_; refine R.sq ?_; refine R.rg ?_; refine R.mv ?_; refine R.ca Tryz.call157 (sortLv_spec hO (Nat.le_trans hlen (Nat.le_trans hn (by decide)))) ?_; rintro _ _ _ ⟨rfl, rfl, ys, q1, hY, hpy, hsy, rfl⟩; refine R.nl ?_; refine R.hs (e' := [(3, _)]) ?_; refine R.sq ?_; refine R.rg ?_; refine R.mv ?_; refine R.ca Tryz.call158 (compact_spec (by rw [hpy.length_eq]; exact Nat.le_trans hlen (Nat.le_trans hn (by decide))) hY) ?_; rintro u _ _ ⟨rfl, q2, hU, rfl⟩
   rw [compL_levels hpy hsy] at hU
   refine R.as ?_; refine R.nl ?_; refine R.hs (e' := [(2, _)]) ?_; refine R.frO hU (fun D' hle hL => ?_); exact R.rk (RV.t .nil) 0 ⟨hle, rfl, hL⟩
end Go.Proofs.YtgdpjpmjcpieiaaGreat

/- What maintenance says: the program's answer is the document's. No condition. -/
namespace Go.Proofs.YtgdpjpmjcpieiaaGreat
open Go
set_option linter.unusedVariables false
set_option linter.unusedSimpArgs false
set_option maxRecDepth 100000
set_option maxHeartbeats 0

section
variable {P : Program} {n : Nat} {Q : Exit → Act → World → Prop} {g : Gl} {k : List It} {e : Env} {D : Dict} {M : MList}
theorem R.frz {b : Nat} {o : Obj} (h : ∀ D', Le D D' → D' b = some o → Run P n Q g k e D' M) : Run P n Q g k e D ((b, o) :: M) := Run.freeze fun hle _ => h _ hle ins_self
end
theorem CsD.ofD {D : Dict} {b off sz : Nat} {vs l : List Value} {T : TypeId} {fr : Nat × Nat} (h : D b = some (.cells l.toArray T fr)) (ht : takeN off sz l = some vs) : CsD D b off sz vs := by
  obtain ⟨h1, h2⟩ := takeN_spec ht
  refine ⟨⟨_, T, fr, h, fun j u hu => ?_⟩, h1⟩
  have hj : j < sz := by
    rcases Nat.lt_or_ge j vs.length with h | h
    · omega
    · rw [List.getElem?_eq_none h] at hu; cases hu
  rw [List.getElem?_toArray, h2 j hj]; exact hu
structure Rl where
  no : Int
  is : Value
  says : Value
abbrev Rl.cells (r : Rl) : List Value := [.int .i64 r.no, r.is, r.says]
theorem Rl.len (o : Rl) : o.cells.length = 3 := rfl
abbrev fnV (f : FuncId) (cap : List Value) : Value := .func (.func f) #[] cap.toArray
def FnB (P : Program) (D : Dict) (v : Value) (b : Bool) : Prop := ∃ f cap, v = fnV f cap ∧ (∀ args w, (callFunc f args).run P w = .ok (.enter f args) w) ∧ ∀ g M, Gives P g f cap D M (.bool b)
def FnH (P : Program) (D : Dict) (v : Value) (p : Ht × Int) : Prop := ∃ f cap, v = fnV f cap ∧ (∀ args w, (callFunc f args).run P w = .ok (.enter f args) w) ∧ ∀ g M, Gives P g f cap D M (.tuple #[.agg (Ht.cells p.1).toArray, .int .i64 p.2])
theorem case_spec {g : Gl} {D : Dict} {M : MList} {a : Value} {xs : List Vw} (own : Ht) (now : Int) (lost : Bool) (hn : xs.length ≤ 1000) (ha : Vws D a xs) :
    Gives Tryz.prog g 124 [.agg (Ht.cells own).toArray, a, .int .i64 now, .bool lost] D M (caseOut (caseV own xs now lost)) := by
  have hle : Le D D := Le.rfl'
  obtain ⟨A, c, hva, _, _⟩ := ha.form
  subst hva
  refine Gives.enter Tryz.func124 rfl Tryz.ntmps124 ?_; refine R.sq ?_; refine R.rg ?_; refine R.bxA (fun b4 hb4 => ?_); refine R.bx1 (fun b5 hb5 => ?_); refine R.bx1 (fun b6 hb6 => ?_); refine R.bx1 (fun b7 hb7 => ?_); refine R.alA Tryz.zeroValue23 (fun b8 hb8 => ?_); refine R.as ?_; refine R.as ?_; refine R.nl ?_; refine R.hs (e' := [(4, _), (5, _), (6, _), (7, _), (8, _)]) ?_; refine Run.scope ?_; refine R.sq ?_; refine R.sq ?_; refine R.rg ?_; refine R.lA 6 Tryz.isAgg23 Tryz.sizeOf23 ?_; refine R.cg Tryz.call44 (hCheck_spec own) ?_; refine R.cm ?_; refine R.mv ?_; refine R.gd (fun zg6 => ?_) (fun zg6 => ?_)
  ·refine R.ld Tryz.isAgg24 ?_; refine R.gY (zg6) ?_; refine R.cg Tryz.call45 (vCheck_spec ha) ?_; refine R.gY (zg6) ?_; refine R.cm ?_; refine R.pF (zg6) ?_; refine R.mv ?_; refine R.gd (fun zg7 => ?_) (fun zg7 => ?_)
   ·refine R.ld Tryz.isAgg3 ?_; refine R.gY (zg7) ?_; refine R.cm ?_; refine R.pF (zg7) ?_; refine R.mv ?_; refine R.gd (fun zg8 => ?_) (fun zg8 => ?_)
    ·refine R.ld Tryz.isAgg3 ?_; refine R.gY (zg8) ?_; refine R.cm ?_; refine R.pF (zg8) ?_; refine R.nl ?_; refine R.hs (e' := [(4, _), (5, _), (6, _), (7, _), (8, _), (38, _)]) ?_; refine R.cd (fun zc9 => ?_) (fun zc9 => ?_)
     ·
      have hok : okCase own xs now = false := by simp only [okCase, errA] at *; simp_all <;> (first | omega | grind)
      have hz : caseV own xs now lost = (z0H, 0, 1) := by simp [caseV, hok]
      refine R.sq ?_; refine R.rg ?_; refine R.bd Tryz.zeroValue23 places23 ?_; refine R.st Tryz.sizeOf23 ?_; refine R.as ?_; refine R.as ?_; refine R.nl ?_; refine R.hs (e' := [(8, _), (9, _), (10, _)]) ?_
      first | exact R.rl (RV.a Tryz.isAgg23 Tryz.sizeOf23 (RV.t (RV.t .nil))) 5 hle (by first | (rw [hz]; done) | (rw [hz]; rfl)) | exact R.rl (RV.a Tryz.isAgg23 Tryz.sizeOf23 (RV.t (RV.t .nil))) 3 hle8 (by first | (rw [hz]; done) | (rw [hz]; rfl))
     ·
      have hok : okCase own xs now = true := by simp only [okCase, errA] at *; simp_all <;> (first | omega | grind)
      refine Run.skip ?_; refine R.sq ?_; refine R.rg ?_; refine R.fa Tryz.runUnderlying23 Tryz.sizeOf3 ?_; refine R.ld Tryz.isAgg3 ?_; refine R.al1 Tryz.zeroValue3 (fun b11 hb11 => ?_); refine R.st Tryz.sizeOf3 ?_; refine R.nl ?_; refine R.hs (e' := [(4, _), (5, _), (6, _), (7, _), (8, _), (11, _)]) ?_; refine R.sq ?_; refine R.rg ?_; refine R.ld Tryz.isAgg24 ?_; refine R.gt Tryz.call125 (levels_spec hn ha) (fun zr4_1 D1 hD1 hzr4_1 => ?_)
      try replace hle := hle.mono hD1
      try replace ha := ha.mono hD1
      obtain ⟨A1, c1, hv1, _, _⟩ := (hzr4_1).form
      subst hv1
      refine R.al1 Tryz.zeroValue116 (fun b12 hb12 => ?_); refine R.st Tryz.sizeOf116 ?_; refine R.nl ?_
      have hL := hzr4_1
      have hll := levelsV_len xs
      refine R.hs (e' := [(4, _), (5, _), (6, _), (7, _), (8, _), (11, _), (12, _)]) ?_; refine R.sq ?_; refine R.rg ?_; refine R.bd Tryz.zeroValue28 places28 ?_; refine R.alA Tryz.zeroValue28 (fun b13 hb13 => ?_); refine R.st Tryz.sizeOf28 ?_; refine R.nl ?_; refine R.hs (e' := [(4, _), (5, _), (6, _), (7, _), (8, _), (11, _), (12, _), (13, _)]) ?_; refine R.sq ?_; refine R.sq ?_; refine R.rg ?_; refine R.ld Tryz.isAgg116 ?_; refine R.ll (hL) Tryz.runUnderlying116 ?_; refine R.cm ?_; refine R.nl ?_; refine R.hs (e' := [(4, _), (5, _), (6, _), (7, _), (8, _), (11, _), (12, _), (13, _), (47, _)]) ?_; refine R.cd (fun zc13 => ?_) (fun zc13 => ?_)
      ·
       have hlv : 0 < (levelsV xs).length := by simp only [decide_eq_true_eq] at zc13; omega
       obtain ⟨y, hgy⟩ := get_of_lt (xs := levelsV xs) (i := (levelsV xs).length - 1) (by omega)
       obtain ⟨b9, o9, hI9, hc9⟩ := hL.at Lv.len hgy
       have hty := topL_at hgy
       refine R.rg ?_; refine R.ld Tryz.isAgg116 ?_; refine R.ld Tryz.isAgg116 ?_; refine R.ll (hL) Tryz.runUnderlying116 ?_; refine R.sb ?_; refine R.ix (hI9) Tryz.runUnderlying116 Tryz.sizeOf28 ?_; refine R.lAD 3 Tryz.isAgg28 Tryz.sizeOf28 ?_; refine R.st Tryz.sizeOf28 ?_; refine R.nl ?_; refine R.hs (e' := [(4, _), (5, _), (6, _), (7, _), (8, _), (11, _), (12, _), (13, _)]) ?_; refine R.sq ?_; refine R.rg ?_; refine R.lA 3 Tryz.isAgg28 Tryz.sizeOf28 ?_; refine R.alA Tryz.zeroValue28 (fun b14 hb14 => ?_); refine R.st Tryz.sizeOf28 ?_; refine R.nl ?_; refine R.hs (e' := [(4, _), (5, _), (6, _), (7, _), (8, _), (11, _), (12, _), (13, _), (14, _)]) ?_; refine R.sq ?_; refine R.rg ?_; refine R.fa Tryz.runUnderlying28 Tryz.sizeOf3 ?_; refine R.st Tryz.sizeOf3 ?_; refine R.nl ?_; refine R.hs (e' := [(4, _), (5, _), (6, _), (7, _), (8, _), (11, _), (12, _), (13, _), (14, _)]) ?_
       refine R.sq ?_; refine R.rg ?_; refine R.mf ?_; refine R.as ?_; refine R.nl ?_; refine R.hs (e' := [(4, _), (5, _), (6, _), (7, _), (8, _), (11, _), (12, _), (13, _), (14, _), (15, _)]) ?_; refine R.sq ?_; refine R.rg ?_; refine R.mf ?_; refine R.as ?_; refine R.nl ?_; refine R.hs (e' := [(4, _), (5, _), (6, _), (7, _), (8, _), (11, _), (12, _), (13, _), (14, _), (15, _), (16, _)]) ?_; refine R.sq ?_; refine R.rg ?_; refine R.mf ?_; refine R.as ?_; refine R.nl ?_; refine R.hs (e' := [(4, _), (5, _), (7, _), (8, _), (11, _), (12, _), (13, _), (14, _), (15, _), (16, _), (17, _)]) ?_; refine R.sq ?_; refine R.rg ?_; refine R.as ?_; refine R.nl ?_; refine R.hs (e' := [(4, _), (5, _), (7, _), (8, _), (11, _), (12, _), (13, _), (14, _), (15, _), (16, _), (17, _), (18, _)]) ?_; refine R.sq ?_; refine Run.label ?_; refine R.sq ?_; refine R.sq ?_; refine R.rg ?_; refine R.mf ?_
       refine R.mv ?_; refine R.bd Tryz.zeroValue136 places136 ?_; refine R.mf ?_; refine R.mv ?_; refine R.bd Tryz.zeroValue136 places136 ?_; refine R.mf ?_; refine R.mv ?_; refine R.bd Tryz.zeroValue136 places136 ?_; refine R.mf ?_; refine R.mf ?_; refine R.bd Tryz.zeroValue136 places136 ?_; refine R.mf ?_; refine R.mf ?_; refine R.bd Tryz.zeroValue136 places136 ?_; refine R.mf ?_; refine R.mv ?_; refine R.bd Tryz.zeroValue136 places136 ?_; refine R.mv ?_; refine R.mv ?_; refine R.bd Tryz.zeroValue136 places136 ?_; refine R.bs zc136 Tryz.runUnderlying138 Tryz.sizeOf136 Tryz.zeroValue136 (fun bR hbR => ?_); refine R.ln Tryz.runUnderlying138 ?_; refine R.mv ?_; refine R.nl ?_; refine R.frz (fun E0 g0 hr => ?_); refine R.frz (fun E1 g1 h14 => ?_); refine R.frz (fun E2 g2 h13 => ?_); refine R.frz (fun E3 g3 h12 => ?_); refine R.frz (fun E4 g4 h11 => ?_)
       refine Run.st (fun w hs => hs.perm (List.perm_middle (l₁ := [_, _, _, _]))) ?_; refine R.frz (fun E5 g5 h7 => ?_); refine R.frz (fun E6 g6 h6 => ?_); refine R.frz (fun E7 g7 h5 => ?_); refine R.frz (fun E8 g8 h4 => ?_)
       have G7 := g8
       have G6 := g7.mono G7
       have G5 := g6.mono G6
       have G4 := g5.mono G5
       have G3 := g4.mono G4
       have G2 := g3.mono G3
       have G1 := g2.mono G2
       have G0 := g1.mono G1
       have GD := g0.mono G0
       have k4 : CsD E8 b4 0 6 (Ht.cells own) := CsD.ofD h4 rfl
       have k5 : B1 E8 b5 _ := CsD.ofD (G7 _ _ h5) rfl
       have k6 : B1 E8 b6 (.int .i64 now) := CsD.ofD (G6 _ _ h6) rfl
       have k7 : B1 E8 b7 (.bool lost) := CsD.ofD (G5 _ _ h7) rfl
       have k11 : B1 E8 b11 (.int .i64 own.id) := CsD.ofD (G4 _ _ h11) rfl
       have k12 : B1 E8 b12 _ := CsD.ofD (G3 _ _ h12) rfl
       have k13 : CsD E8 b13 0 3 (Lv.cells (topL xs)) := by rw [hty]; exact CsD.ofD (G2 _ _ h13) rfl
       have k14 : CsD E8 b14 0 3 (Lv.cells ⟨(topL xs).tau, (topL xs).oid, 1⟩) := by rw [hty]; exact CsD.ofD (G1 _ _ h14) rfl
       have hL8 := hL.mono GD
       have ha8 := ha.mono GD
       have hle8 := hle.mono GD
       have hvs : okVs xs = true := by simp only [okCase, Bool.and_eq_true] at hok; exact hok.1.2
       obtain ⟨rs, hrs⟩ : ∃ rs : List Rl, rs = [⟨0, fnV 148 [ptr b4, ptr b5], fnV 143 [ptr b4]⟩, ⟨6, fnV 149 [ptr b12], fnV 144 [ptr b11]⟩, ⟨1, fnV 150 [ptr b7], fnV 145 [ptr b6, ptr b11]⟩, ⟨2, fnV 151 [ptr b12], fnV 152 [ptr b13, ptr b5, ptr b11]⟩, ⟨3, fnV 154 [ptr b13], fnV 155 [ptr b14, ptr b11]⟩, ⟨4, fnV 156 [ptr b13, ptr b11], fnV 144 [ptr b11]⟩, ⟨5, fnV 147 [], fnV 145 [ptr b6, ptr b11]⟩] := ⟨_, rfl⟩
       have hRs : Lst E8 3 Rl.cells (.slice (some ⟨bR, 0, none⟩) 7 7) rs := Lst.lit rs (G0 _ _ hr) (by rw [hrs]; rfl) (fun _ => rfl) (by rw [hrs]; rfl) (by decide) (by decide)
       have hF : ∀ i r, rs[i]? = some r → FnB Tryz.prog E8 r.is (ruleIs own xs lost i) ∧ FnH Tryz.prog E8 r.says (ruleSays own xs now i) ∧ r.no = ruleNo i := by
         intro i r h
         rw [hrs] at h
         match i with
         | 0 => simp at h; subst h; exact ⟨⟨_, _, rfl, Tryz.call148, fun g M => c5_spec hn k4 k5 ha8⟩, ⟨_, _, rfl, Tryz.call143, fun g M => c1_spec k4⟩, rfl⟩
         | 1 => simp at h; subst h; exact ⟨⟨_, _, rfl, Tryz.call149, fun g M => c6_spec k12 hL8⟩, ⟨_, _, rfl, Tryz.call144, fun g M => c2_spec k11⟩, rfl⟩
         | 2 => simp at h; subst h; exact ⟨⟨_, _, rfl, Tryz.call150, fun g M => c7_spec k7⟩, ⟨_, _, rfl, Tryz.call145, fun g M => c3_spec k6 k11⟩, rfl⟩
         | 3 => simp at h; subst h; exact ⟨⟨_, _, rfl, Tryz.call151, fun g M => c8_spec k12 hL8⟩, ⟨_, _, rfl, Tryz.call152, fun g M => c9_spec hvs k13 k5 k11 ha8⟩, rfl⟩
         | 4 => simp at h; subst h; exact ⟨⟨_, _, rfl, Tryz.call154, fun g M => c10_spec k13⟩, ⟨_, _, rfl, Tryz.call155, fun g M => c11_spec k14 k11⟩, rfl⟩
         | 5 => simp at h; subst h; exact ⟨⟨_, _, rfl, Tryz.call156, fun g M => c12_spec k13 k11⟩, ⟨_, _, rfl, Tryz.call144, fun g M => c2_spec k11⟩, rfl⟩
         | 6 => simp at h; subst h; exact ⟨⟨_, _, rfl, Tryz.call147, fun g M => c4_spec⟩, ⟨_, _, rfl, Tryz.call145, fun g M => c3_spec k6 k11⟩, rfl⟩
         | i + 7 => simp at h
       have hrl : rs.length = 7 := by rw [hrs]; rfl
       clear hrs
       refine R.hs (e' := [(4, _), (8, _), (80, _), (81, _), (82, _)]) ?_; refine Run.block ?_; refine Run.loop (ι := Nat) [(4, _), (8, _), (80, _), (81, _)] (fun i => [(82, .int .i64 (i : Int))]) (fun _ => E8) (fun _ => (b8, .cells (Ht.cells z0H).toArray 23 (0, 0)) :: M) (fun i => i ≤ 7 ∧ ∀ j, j < i → ruleIs own xs lost j = false) (fun i => 7 - i) (0) (by repeat (first | exact trivial | refine ⟨rfl, ?_⟩)) ?h0 (by repeat (first | exact trivial | refine ⟨rfl, ?_⟩)) (fun w hs => hs) ?_
       case h0 => exact ⟨Nat.zero_le _, upto0⟩
       rintro i ⟨hi, hpre⟩; refine R.sq ?_; refine R.rg ?_; refine R.cm ?_; refine R.nl ?_; refine R.hs (e' := [(4, _), (8, _), (80, _), (81, _), (82, _), (83, _)]) ?_; refine R.sq ?_; refine R.cd (fun zc16 => ?_) (fun zc16 => ?_)
       ·
        have hlt : i < 7 := by simp at zc16; omega
        obtain ⟨⟨no, is, says⟩, hgr⟩ := get_of_lt (xs := rs) (i := i) (by omega)
        obtain ⟨bx, ox, hIx, hcx⟩ := hRs.at Rl.len hgr
        obtain ⟨⟨f1, cap1, e1, hc1, hs1⟩, ⟨f2, cap2, e2, hc2, hs2⟩, e3⟩ := hF i _ hgr
        simp only at e1 e2 e3
        subst e1; subst e2; subst e3
        generalize hp0 : ruleSays own xs now i = p at hs2
        refine Run.skip ?_; refine R.sq ?_; refine Run.block ?_; refine R.sq ?_; refine R.rg ?_; refine R.ix (hIx) Tryz.runUnderlying138 Tryz.sizeOf136 ?_; refine R.lAD 3 Tryz.isAgg136 Tryz.sizeOf136 ?_; refine R.alA Tryz.zeroValue136 (fun b20 hb20 => ?_); refine R.st Tryz.sizeOf136 ?_; refine R.nl ?_; refine R.hs (e' := [(4, _), (8, _), (20, _), (80, _), (81, _), (82, _)]) ?_; refine R.sq ?_; refine R.sq ?_; refine R.rg ?_; refine R.fa Tryz.runUnderlying136 Tryz.sizeOf40 ?_; refine R.ld Tryz.isAgg40 ?_; refine R.cy (hc1) (hs1 _ _) ?_; refine R.nt ?_; refine R.nl ?_; refine R.hs (e' := [(4, _), (8, _), (20, _), (80, _), (81, _), (82, _), (89, _)]) ?_; refine R.cd (fun zc18 => ?_) (fun zc18 => ?_)
        ·
         have hf : ruleIs own xs lost i = false := by simpa using zc18
         refine Run.exit rfl ?_; refine R.rg ?_; refine R.ad ?_; refine R.mv ?_; refine R.nl ?_; refine R.hs (e' := [(4, _), (8, _), (80, _), (81, _), (82, _)]) ?_; exact Run.again (i + 1) ⟨by omega, upto hpre hf⟩ (by omega) (by refine ⟨rfl, ?_⟩; repeat (first | exact trivial | refine ⟨rfl, ?_⟩)) (fun w hs => hs.drop 1)
        ·
         have hf : ruleIs own xs lost i = true := by simpa using zc18
         have hz0 : caseV own xs now lost = caseAt p (ruleNo i) := by rw [case_rule hok hlt hpre hf, ruleAt, hp0]
         refine Run.skip ?_; refine R.sq ?_; refine R.rg ?_; refine R.fa Tryz.runUnderlying136 Tryz.sizeOf134 ?_; refine R.ld Tryz.isAgg134 ?_; refine R.cy (hc2) (hs2 _ _) ?_; refine R.mv ?_; refine R.ex ?_; refine R.ex ?_; refine R.alA Tryz.zeroValue23 (fun b21 hb21 => ?_); refine R.st Tryz.sizeOf23 ?_; refine R.as ?_; refine R.nl ?_; refine R.hs (e' := [(8, _), (20, _), (21, _), (22, _)]) ?_; refine R.sq ?_; refine R.sq ?_; refine R.rg ?_; refine R.mv ?_; refine R.cm ?_; refine R.nl ?_; refine R.hs (e' := [(8, _), (20, _), (21, _), (22, _), (97, _)]) ?_; refine R.cd (fun zc20 => ?_) (fun zc20 => ?_)
         ·
          have hne : p.2 ≠ 0 := by simpa using zc20
          have hz : caseV own xs now lost = (z0H, 0, p.2) := by rw [hz0]; simp [caseAt, hne]
          refine R.sq ?_; refine R.rg ?_; refine R.bd Tryz.zeroValue23 places23 ?_; refine R.mv ?_; refine R.st Tryz.sizeOf23 ?_; refine R.as ?_; refine R.as ?_; refine R.nl ?_; refine R.hs (e' := [(8, _), (9, _), (10, _)]) ?_
          first | exact R.rl (RV.a Tryz.isAgg23 Tryz.sizeOf23 (RV.t (RV.t .nil))) 5 hle (by first | (rw [hz]; done) | (rw [hz]; rfl)) | exact R.rl (RV.a Tryz.isAgg23 Tryz.sizeOf23 (RV.t (RV.t .nil))) 3 hle8 (by first | (rw [hz]; done) | (rw [hz]; rfl))
         ·
          have hne : p.2 = 0 := by simpa using zc20
          have hz : caseV own xs now lost = (p.1, ruleNo i, 0) := by rw [hz0]; simp [caseAt, hne]
          refine Run.skip ?_; refine R.sq ?_; refine Run.drawX Grow.eq 4 3 (fun M' => M' = (b21, .cells (Ht.cells p.1).toArray 23 (0, 0)) :: (b20, .cells (Rl.cells ⟨ruleNo i, fnV f1 cap1, fnV f2 cap2⟩).toArray 136 (0, 0)) :: (b8, .cells (Ht.cells p.1).toArray 23 (0, 0)) :: M) [(8, _), (20, _), (21, _)] mix (by kernel_rfl) (by repeat (first | exact trivial | refine ⟨rfl, ?_⟩)) ?_; apply TX.val []; exact rfl; kernel_rfl
          ·rintro _ rfl ; refine R.lA 6 Tryz.isAgg23 Tryz.sizeOf23 ?_; refine R.nl ?_; exact Run.loc rfl rfl rfl
          apply TX.late []; exact rfl; kernel_rfl
          ·intro zM hzM; rintro _ rfl ; refine R.fa Tryz.runUnderlying136 Tryz.sizeOf3 ?_; refine R.nl ?_; exact Run.loc rfl rfl rfl
          apply TX.late [0]; exact rfl; kernel_rfl
          ·intro zM hzM; rintro _ rfl _ rfl
           have hmb : (b20, Obj.cells (Rl.cells ⟨ruleNo i, fnV f1 cap1, fnV f2 cap2⟩).toArray 136 (0, 0)) ∈ zM := by rcases hzM with rfl | ⟨_, rfl⟩ <;> exact .tail _ (.head _)
           refine R.ld Tryz.isAgg3 ?_ (hc := Cs.mkM (n := 1) hmb rfl); refine R.nl ?_; exact Run.loc rfl rfl rfl
          apply TX.eff [2]; exact rfl; kernel_rfl
          ·rintro _ rfl _ rfl; refine R.st Tryz.sizeOf23 ?_; refine R.nl ?_; exact Run.effd rfl (rfl)
          refine TX.fin (by rfl) ?_; rintro zM rfl; rintro _ rfl  _ rfl _ rfl _ rfl; refine R.as ?_; refine R.as ?_; refine R.nl ?_; refine R.hs (e' := [(8, _), (9, _), (10, _)]) ?_
          first | exact R.rl (RV.a Tryz.isAgg23 Tryz.sizeOf23 (RV.t (RV.t .nil))) 5 hle (by first | (rw [hz]; done) | (rw [hz]; rfl)) | exact R.rl (RV.a Tryz.isAgg23 Tryz.sizeOf23 (RV.t (RV.t .nil))) 3 hle8 (by first | (rw [hz]; done) | (rw [hz]; rfl))
       ·
        have h6 := hpre 6 (by simp at zc16; omega)
        cases h6
      ·
       have hlv : (levelsV xs).length = 0 := by simp only [decide_eq_false_iff_not] at zc13; omega
       have hty := topL_nil hlv
       refine Run.skip ?_; refine R.sq ?_; refine R.rg ?_; refine R.lA 3 Tryz.isAgg28 Tryz.sizeOf28 ?_; refine R.alA Tryz.zeroValue28 (fun b14 hb14 => ?_); refine R.st Tryz.sizeOf28 ?_; refine R.nl ?_; refine R.hs (e' := [(4, _), (5, _), (6, _), (7, _), (8, _), (11, _), (12, _), (13, _), (14, _)]) ?_; refine R.sq ?_; refine R.rg ?_; refine R.fa Tryz.runUnderlying28 Tryz.sizeOf3 ?_; refine R.st Tryz.sizeOf3 ?_; refine R.nl ?_; refine R.hs (e' := [(4, _), (5, _), (6, _), (7, _), (8, _), (11, _), (12, _), (13, _), (14, _)]) ?_; refine R.sq ?_; refine R.rg ?_; refine R.mf ?_; refine R.as ?_; refine R.nl ?_; refine R.hs (e' := [(4, _), (5, _), (6, _), (7, _), (8, _), (11, _), (12, _), (13, _), (14, _), (15, _)]) ?_; refine R.sq ?_; refine R.rg ?_; refine R.mf ?_; refine R.as ?_; refine R.nl ?_
       refine R.hs (e' := [(4, _), (5, _), (6, _), (7, _), (8, _), (11, _), (12, _), (13, _), (14, _), (15, _), (16, _)]) ?_; refine R.sq ?_; refine R.rg ?_; refine R.mf ?_; refine R.as ?_; refine R.nl ?_; refine R.hs (e' := [(4, _), (5, _), (7, _), (8, _), (11, _), (12, _), (13, _), (14, _), (15, _), (16, _), (17, _)]) ?_; refine R.sq ?_; refine R.rg ?_; refine R.as ?_; refine R.nl ?_; refine R.hs (e' := [(4, _), (5, _), (7, _), (8, _), (11, _), (12, _), (13, _), (14, _), (15, _), (16, _), (17, _), (18, _)]) ?_; refine R.sq ?_; refine Run.label ?_; refine R.sq ?_; refine R.sq ?_; refine R.rg ?_; refine R.mf ?_; refine R.mv ?_; refine R.bd Tryz.zeroValue136 places136 ?_; refine R.mf ?_; refine R.mv ?_; refine R.bd Tryz.zeroValue136 places136 ?_; refine R.mf ?_; refine R.mv ?_; refine R.bd Tryz.zeroValue136 places136 ?_; refine R.mf ?_; refine R.mf ?_
       refine R.bd Tryz.zeroValue136 places136 ?_; refine R.mf ?_; refine R.mf ?_; refine R.bd Tryz.zeroValue136 places136 ?_; refine R.mf ?_; refine R.mv ?_; refine R.bd Tryz.zeroValue136 places136 ?_; refine R.mv ?_; refine R.mv ?_; refine R.bd Tryz.zeroValue136 places136 ?_; refine R.bs zc136 Tryz.runUnderlying138 Tryz.sizeOf136 Tryz.zeroValue136 (fun bR hbR => ?_); refine R.ln Tryz.runUnderlying138 ?_; refine R.mv ?_; refine R.nl ?_; refine R.frz (fun E0 g0 hr => ?_); refine R.frz (fun E1 g1 h14 => ?_); refine R.frz (fun E2 g2 h13 => ?_); refine R.frz (fun E3 g3 h12 => ?_); refine R.frz (fun E4 g4 h11 => ?_); refine Run.st (fun w hs => hs.perm (List.perm_middle (l₁ := [_, _, _, _]))) ?_; refine R.frz (fun E5 g5 h7 => ?_); refine R.frz (fun E6 g6 h6 => ?_); refine R.frz (fun E7 g7 h5 => ?_); refine R.frz (fun E8 g8 h4 => ?_)
       have G7 := g8
       have G6 := g7.mono G7
       have G5 := g6.mono G6
       have G4 := g5.mono G5
       have G3 := g4.mono G4
       have G2 := g3.mono G3
       have G1 := g2.mono G2
       have G0 := g1.mono G1
       have GD := g0.mono G0
       have k4 : CsD E8 b4 0 6 (Ht.cells own) := CsD.ofD h4 rfl
       have k5 : B1 E8 b5 _ := CsD.ofD (G7 _ _ h5) rfl
       have k6 : B1 E8 b6 (.int .i64 now) := CsD.ofD (G6 _ _ h6) rfl
       have k7 : B1 E8 b7 (.bool lost) := CsD.ofD (G5 _ _ h7) rfl
       have k11 : B1 E8 b11 (.int .i64 own.id) := CsD.ofD (G4 _ _ h11) rfl
       have k12 : B1 E8 b12 _ := CsD.ofD (G3 _ _ h12) rfl
       have k13 : CsD E8 b13 0 3 (Lv.cells (topL xs)) := by rw [hty]; exact CsD.ofD (G2 _ _ h13) rfl
       have k14 : CsD E8 b14 0 3 (Lv.cells ⟨(topL xs).tau, (topL xs).oid, 1⟩) := by rw [hty]; exact CsD.ofD (G1 _ _ h14) rfl
       have hL8 := hL.mono GD
       have ha8 := ha.mono GD
       have hle8 := hle.mono GD
       have hvs : okVs xs = true := by simp only [okCase, Bool.and_eq_true] at hok; exact hok.1.2
       obtain ⟨rs, hrs⟩ : ∃ rs : List Rl, rs = [⟨0, fnV 148 [ptr b4, ptr b5], fnV 143 [ptr b4]⟩, ⟨6, fnV 149 [ptr b12], fnV 144 [ptr b11]⟩, ⟨1, fnV 150 [ptr b7], fnV 145 [ptr b6, ptr b11]⟩, ⟨2, fnV 151 [ptr b12], fnV 152 [ptr b13, ptr b5, ptr b11]⟩, ⟨3, fnV 154 [ptr b13], fnV 155 [ptr b14, ptr b11]⟩, ⟨4, fnV 156 [ptr b13, ptr b11], fnV 144 [ptr b11]⟩, ⟨5, fnV 147 [], fnV 145 [ptr b6, ptr b11]⟩] := ⟨_, rfl⟩
       have hRs : Lst E8 3 Rl.cells (.slice (some ⟨bR, 0, none⟩) 7 7) rs := Lst.lit rs (G0 _ _ hr) (by rw [hrs]; rfl) (fun _ => rfl) (by rw [hrs]; rfl) (by decide) (by decide)
       have hF : ∀ i r, rs[i]? = some r → FnB Tryz.prog E8 r.is (ruleIs own xs lost i) ∧ FnH Tryz.prog E8 r.says (ruleSays own xs now i) ∧ r.no = ruleNo i := by
         intro i r h
         rw [hrs] at h
         match i with
         | 0 => simp at h; subst h; exact ⟨⟨_, _, rfl, Tryz.call148, fun g M => c5_spec hn k4 k5 ha8⟩, ⟨_, _, rfl, Tryz.call143, fun g M => c1_spec k4⟩, rfl⟩
         | 1 => simp at h; subst h; exact ⟨⟨_, _, rfl, Tryz.call149, fun g M => c6_spec k12 hL8⟩, ⟨_, _, rfl, Tryz.call144, fun g M => c2_spec k11⟩, rfl⟩
         | 2 => simp at h; subst h; exact ⟨⟨_, _, rfl, Tryz.call150, fun g M => c7_spec k7⟩, ⟨_, _, rfl, Tryz.call145, fun g M => c3_spec k6 k11⟩, rfl⟩
         | 3 => simp at h; subst h; exact ⟨⟨_, _, rfl, Tryz.call151, fun g M => c8_spec k12 hL8⟩, ⟨_, _, rfl, Tryz.call152, fun g M => c9_spec hvs k13 k5 k11 ha8⟩, rfl⟩
         | 4 => simp at h; subst h; exact ⟨⟨_, _, rfl, Tryz.call154, fun g M => c10_spec k13⟩, ⟨_, _, rfl, Tryz.call155, fun g M => c11_spec k14 k11⟩, rfl⟩
         | 5 => simp at h; subst h; exact ⟨⟨_, _, rfl, Tryz.call156, fun g M => c12_spec k13 k11⟩, ⟨_, _, rfl, Tryz.call144, fun g M => c2_spec k11⟩, rfl⟩
         | 6 => simp at h; subst h; exact ⟨⟨_, _, rfl, Tryz.call147, fun g M => c4_spec⟩, ⟨_, _, rfl, Tryz.call145, fun g M => c3_spec k6 k11⟩, rfl⟩
         | i + 7 => simp at h
       have hrl : rs.length = 7 := by rw [hrs]; rfl
       clear hrs
       refine R.hs (e' := [(4, _), (8, _), (80, _), (81, _), (82, _)]) ?_; refine Run.block ?_; refine Run.loop (ι := Nat) [(4, _), (8, _), (80, _), (81, _)] (fun i => [(82, .int .i64 (i : Int))]) (fun _ => E8) (fun _ => (b8, .cells (Ht.cells z0H).toArray 23 (0, 0)) :: M) (fun i => i ≤ 7 ∧ ∀ j, j < i → ruleIs own xs lost j = false) (fun i => 7 - i) (0) (by repeat (first | exact trivial | refine ⟨rfl, ?_⟩)) ?h0 (by repeat (first | exact trivial | refine ⟨rfl, ?_⟩)) (fun w hs => hs) ?_
       case h0 => exact ⟨Nat.zero_le _, upto0⟩
       rintro i ⟨hi, hpre⟩; refine R.sq ?_; refine R.rg ?_; refine R.cm ?_; refine R.nl ?_; refine R.hs (e' := [(4, _), (8, _), (80, _), (81, _), (82, _), (83, _)]) ?_; refine R.sq ?_; refine R.cd (fun zc28 => ?_) (fun zc28 => ?_)
       ·
        have hlt : i < 7 := by simp at zc28; omega
        obtain ⟨⟨no, is, says⟩, hgr⟩ := get_of_lt (xs := rs) (i := i) (by omega)
        obtain ⟨bx, ox, hIx, hcx⟩ := hRs.at Rl.len hgr
        obtain ⟨⟨f1, cap1, e1, hc1, hs1⟩, ⟨f2, cap2, e2, hc2, hs2⟩, e3⟩ := hF i _ hgr
        simp only at e1 e2 e3
        subst e1; subst e2; subst e3
        generalize hp0 : ruleSays own xs now i = p at hs2
        refine Run.skip ?_; refine R.sq ?_; refine Run.block ?_; refine R.sq ?_; refine R.rg ?_; refine R.ix (hIx) Tryz.runUnderlying138 Tryz.sizeOf136 ?_; refine R.lAD 3 Tryz.isAgg136 Tryz.sizeOf136 ?_; refine R.alA Tryz.zeroValue136 (fun b20 hb20 => ?_); refine R.st Tryz.sizeOf136 ?_; refine R.nl ?_; refine R.hs (e' := [(4, _), (8, _), (20, _), (80, _), (81, _), (82, _)]) ?_; refine R.sq ?_; refine R.sq ?_; refine R.rg ?_; refine R.fa Tryz.runUnderlying136 Tryz.sizeOf40 ?_; refine R.ld Tryz.isAgg40 ?_; refine R.cy (hc1) (hs1 _ _) ?_; refine R.nt ?_; refine R.nl ?_; refine R.hs (e' := [(4, _), (8, _), (20, _), (80, _), (81, _), (82, _), (89, _)]) ?_; refine R.cd (fun zc30 => ?_) (fun zc30 => ?_)
        ·
         have hf : ruleIs own xs lost i = false := by simpa using zc30
         refine Run.exit rfl ?_; refine R.rg ?_; refine R.ad ?_; refine R.mv ?_; refine R.nl ?_; refine R.hs (e' := [(4, _), (8, _), (80, _), (81, _), (82, _)]) ?_; exact Run.again (i + 1) ⟨by omega, upto hpre hf⟩ (by omega) (by refine ⟨rfl, ?_⟩; repeat (first | exact trivial | refine ⟨rfl, ?_⟩)) (fun w hs => hs.drop 1)
        ·
         have hf : ruleIs own xs lost i = true := by simpa using zc30
         have hz0 : caseV own xs now lost = caseAt p (ruleNo i) := by rw [case_rule hok hlt hpre hf, ruleAt, hp0]
         refine Run.skip ?_; refine R.sq ?_; refine R.rg ?_; refine R.fa Tryz.runUnderlying136 Tryz.sizeOf134 ?_; refine R.ld Tryz.isAgg134 ?_; refine R.cy (hc2) (hs2 _ _) ?_; refine R.mv ?_; refine R.ex ?_; refine R.ex ?_; refine R.alA Tryz.zeroValue23 (fun b21 hb21 => ?_); refine R.st Tryz.sizeOf23 ?_; refine R.as ?_; refine R.nl ?_; refine R.hs (e' := [(8, _), (20, _), (21, _), (22, _)]) ?_; refine R.sq ?_; refine R.sq ?_; refine R.rg ?_; refine R.mv ?_; refine R.cm ?_; refine R.nl ?_; refine R.hs (e' := [(8, _), (20, _), (21, _), (22, _), (97, _)]) ?_; refine R.cd (fun zc32 => ?_) (fun zc32 => ?_)
         ·
          have hne : p.2 ≠ 0 := by simpa using zc32
          have hz : caseV own xs now lost = (z0H, 0, p.2) := by rw [hz0]; simp [caseAt, hne]
          refine R.sq ?_; refine R.rg ?_; refine R.bd Tryz.zeroValue23 places23 ?_; refine R.mv ?_; refine R.st Tryz.sizeOf23 ?_; refine R.as ?_; refine R.as ?_; refine R.nl ?_; refine R.hs (e' := [(8, _), (9, _), (10, _)]) ?_
          first | exact R.rl (RV.a Tryz.isAgg23 Tryz.sizeOf23 (RV.t (RV.t .nil))) 5 hle (by first | (rw [hz]; done) | (rw [hz]; rfl)) | exact R.rl (RV.a Tryz.isAgg23 Tryz.sizeOf23 (RV.t (RV.t .nil))) 3 hle8 (by first | (rw [hz]; done) | (rw [hz]; rfl))
         ·
          have hne : p.2 = 0 := by simpa using zc32
          have hz : caseV own xs now lost = (p.1, ruleNo i, 0) := by rw [hz0]; simp [caseAt, hne]
          refine Run.skip ?_; refine R.sq ?_; refine Run.drawX Grow.eq 4 3 (fun M' => M' = (b21, .cells (Ht.cells p.1).toArray 23 (0, 0)) :: (b20, .cells (Rl.cells ⟨ruleNo i, fnV f1 cap1, fnV f2 cap2⟩).toArray 136 (0, 0)) :: (b8, .cells (Ht.cells p.1).toArray 23 (0, 0)) :: M) [(8, _), (20, _), (21, _)] mix (by kernel_rfl) (by repeat (first | exact trivial | refine ⟨rfl, ?_⟩)) ?_; apply TX.val []; exact rfl; kernel_rfl
          ·rintro _ rfl ; refine R.lA 6 Tryz.isAgg23 Tryz.sizeOf23 ?_; refine R.nl ?_; exact Run.loc rfl rfl rfl
          apply TX.late []; exact rfl; kernel_rfl
          ·intro zM hzM; rintro _ rfl ; refine R.fa Tryz.runUnderlying136 Tryz.sizeOf3 ?_; refine R.nl ?_; exact Run.loc rfl rfl rfl
          apply TX.late [0]; exact rfl; kernel_rfl
          ·intro zM hzM; rintro _ rfl _ rfl
           have hmb : (b20, Obj.cells (Rl.cells ⟨ruleNo i, fnV f1 cap1, fnV f2 cap2⟩).toArray 136 (0, 0)) ∈ zM := by rcases hzM with rfl | ⟨_, rfl⟩ <;> exact .tail _ (.head _)
           refine R.ld Tryz.isAgg3 ?_ (hc := Cs.mkM (n := 1) hmb rfl); refine R.nl ?_; exact Run.loc rfl rfl rfl
          apply TX.eff [2]; exact rfl; kernel_rfl
          ·rintro _ rfl _ rfl; refine R.st Tryz.sizeOf23 ?_; refine R.nl ?_; exact Run.effd rfl (rfl)
          refine TX.fin (by rfl) ?_; rintro zM rfl; rintro _ rfl  _ rfl _ rfl _ rfl; refine R.as ?_; refine R.as ?_; refine R.nl ?_; refine R.hs (e' := [(8, _), (9, _), (10, _)]) ?_
          first | exact R.rl (RV.a Tryz.isAgg23 Tryz.sizeOf23 (RV.t (RV.t .nil))) 5 hle (by first | (rw [hz]; done) | (rw [hz]; rfl)) | exact R.rl (RV.a Tryz.isAgg23 Tryz.sizeOf23 (RV.t (RV.t .nil))) 3 hle8 (by first | (rw [hz]; done) | (rw [hz]; rfl))
       ·
        have h6 := hpre 6 (by simp at zc28; omega)
        cases h6
    ·refine R.gF (zg8) ?_; refine R.pT (zg8) ?_; refine R.nl ?_; refine R.hs (e' := [(4, _), (5, _), (6, _), (7, _), (8, _), (38, _)]) ?_; refine R.cT (rfl) ?_
     have hok : okCase own xs now = false := by simp only [okCase, errA] at *; simp_all <;> (first | omega | grind)
     have hz : caseV own xs now lost = (z0H, 0, 1) := by simp [caseV, hok]
     refine R.sq ?_; refine R.rg ?_; refine R.bd Tryz.zeroValue23 places23 ?_; refine R.st Tryz.sizeOf23 ?_; refine R.as ?_; refine R.as ?_; refine R.nl ?_; refine R.hs (e' := [(8, _), (9, _), (10, _)]) ?_
     first | exact R.rl (RV.a Tryz.isAgg23 Tryz.sizeOf23 (RV.t (RV.t .nil))) 5 hle (by first | (rw [hz]; done) | (rw [hz]; rfl)) | exact R.rl (RV.a Tryz.isAgg23 Tryz.sizeOf23 (RV.t (RV.t .nil))) 3 hle8 (by first | (rw [hz]; done) | (rw [hz]; rfl))
   ·refine R.gF (zg7) ?_; refine R.pT (zg7) ?_; refine R.mv ?_; refine R.gF (rfl) ?_; refine R.gF (rfl) ?_; refine R.pT (rfl) ?_; refine R.nl ?_; refine R.hs (e' := [(4, _), (5, _), (6, _), (7, _), (8, _), (38, _)]) ?_; refine R.cT (rfl) ?_
    have hok : okCase own xs now = false := by simp only [okCase, errA] at *; simp_all <;> (first | omega | grind)
    have hz : caseV own xs now lost = (z0H, 0, 1) := by simp [caseV, hok]
    refine R.sq ?_; refine R.rg ?_; refine R.bd Tryz.zeroValue23 places23 ?_; refine R.st Tryz.sizeOf23 ?_; refine R.as ?_; refine R.as ?_; refine R.nl ?_; refine R.hs (e' := [(8, _), (9, _), (10, _)]) ?_
    first | exact R.rl (RV.a Tryz.isAgg23 Tryz.sizeOf23 (RV.t (RV.t .nil))) 5 hle (by first | (rw [hz]; done) | (rw [hz]; rfl)) | exact R.rl (RV.a Tryz.isAgg23 Tryz.sizeOf23 (RV.t (RV.t .nil))) 3 hle8 (by first | (rw [hz]; done) | (rw [hz]; rfl))
  ·refine R.gF (zg6) ?_; refine R.gF (zg6) ?_; refine R.pT (zg6) ?_; refine R.mv ?_; refine R.gF (rfl) ?_; refine R.gF (rfl) ?_; refine R.pT (rfl) ?_; refine R.mv ?_; refine R.gF (rfl) ?_; refine R.gF (rfl) ?_; refine R.pT (rfl) ?_; refine R.nl ?_; refine R.hs (e' := [(4, _), (5, _), (6, _), (7, _), (8, _), (38, _)]) ?_; refine R.cT (rfl) ?_
   have hok : okCase own xs now = false := by simp only [okCase, errA] at *; simp_all <;> (first | omega | grind)
   have hz : caseV own xs now lost = (z0H, 0, 1) := by simp [caseV, hok]
   refine R.sq ?_; refine R.rg ?_; refine R.bd Tryz.zeroValue23 places23 ?_; refine R.st Tryz.sizeOf23 ?_; refine R.as ?_; refine R.as ?_; refine R.nl ?_; refine R.hs (e' := [(8, _), (9, _), (10, _)]) ?_
   first | exact R.rl (RV.a Tryz.isAgg23 Tryz.sizeOf23 (RV.t (RV.t .nil))) 5 hle (by first | (rw [hz]; done) | (rw [hz]; rfl)) | exact R.rl (RV.a Tryz.isAgg23 Tryz.sizeOf23 (RV.t (RV.t .nil))) 3 hle8 (by first | (rw [hz]; done) | (rw [hz]; rfl))
end Go.Proofs.YtgdpjpmjcpieiaaGreat

/- A route that is turned: what is said, plainly and in memory. No condition. -/
namespace Go.Proofs.YtgdpjpmjcpieiaaGreat
open Go
set_option linter.unusedVariables false
set_option linter.unusedSimpArgs false
set_option maxRecDepth 100000
set_option maxHeartbeats 0
def z0L : Lv := ⟨0, 0, 0⟩
structure Ou where
  to : Int
  ob : Ob
  deriving DecidableEq, Inhabited
abbrev Ou.cells (x : Ou) : List Value := [.int .i64 x.to, .int .i64 x.ob.kind, .int .i64 x.ob.dest, .bool x.ob.h.null, .int .i64 x.ob.h.tau, .int .i64 x.ob.h.oid, .int .i64 x.ob.h.r, .int .i64 x.ob.h.delta, .int .i64 x.ob.h.id, .int .i64 x.ob.l.tau, .int .i64 x.ob.l.oid, .int .i64 x.ob.l.r, .int .i64 x.ob.num]
theorem Ou.len (x : Ou) : x.cells.length = 13 := rfl
theorem Ou.ones (x : Ou) : ∀ u ∈ x.cells, u.oneCell' = true := Go.Proofs.YtgdpjpmjcpieiaaGreat.ones (xs := x.cells) rfl
/-- a route -/
structure Rt where
  me : Int
  dest : Int
  own : Ht
  vs : List Vw
  asked : Bool
  want : Bool
  heard : Bool
  last : Int
  deriving DecidableEq, Inhabited
/-- a route that is turned, what went out, what went wrong -/
structure Tn where
  r : Rt
  now : Int
  out : List Ou
  e : Int
  deriving DecidableEq, Inhabited
abbrev Rt.cells (v : Value) (r : Rt) : List Value := [.int .i64 r.me, .int .i64 r.dest, .bool r.own.null, .int .i64 r.own.tau, .int .i64 r.own.oid, .int .i64 r.own.r, .int .i64 r.own.delta, .int .i64 r.own.id, v, .bool r.asked, .bool r.want, .bool r.heard, .int .i64 r.last]
abbrev Tn.cells (v o : Value) (t : Tn) : List Value := [.int .i64 t.r.me, .int .i64 t.r.dest, .bool t.r.own.null, .int .i64 t.r.own.tau, .int .i64 t.r.own.oid, .int .i64 t.r.own.r, .int .i64 t.r.own.delta, .int .i64 t.r.own.id, v, .bool t.r.asked, .bool t.r.want, .bool t.r.heard, .int .i64 t.r.last, .int .i64 t.now, o, .int .i64 t.e]
abbrev UO (v : Value) (xs : List Ou) (q : MList) : Prop := OL 13 Ou.cells 50 v xs q
abbrev tb (b : Nat) (v o : Value) (t : Tn) : Nat × Obj := (b, .cells (Tn.cells v o t).toArray 78 (0, 0))
/-- the turn's memory -/
def Tm (D : Dict) (b : Nat) (t : Tn) (m : MList) : Prop := ∃ v o q, Vws D v t.r.vs ∧ UO o t.out q ∧ m = tb b v o t :: q
def Tn.send (t : Tn) (to : Int) (o : Ob) : Tn := { t with out := t.out ++ [⟨to, { o with dest := t.r.dest }⟩] }
def Tn.tell (t : Tn) (to : Int) : Tn := t.send to ⟨2, 0, t.r.own, z0L, 0⟩
def Tn.clear (t : Tn) (to : Int) (v : Lv) : Tn := t.send to ⟨3, 0, z0H, v, 0⟩
def Tn.home (t : Tn) : Bool := decide (t.r.me = t.r.dest)
def Tn.ask (t : Tn) (to : Int) : Tn := t.send to ⟨1, 0, z0H, z0L, 0⟩
/-- a method: from t to t' -/
def MS (f : FuncId) (vs : List Value) (b : Nat) (t t' : Tn) : Prop := ∀ (g : Gl) (D : Dict) (L Z m : MList), Tm D b t m →
  Spec Tryz.prog g f vs D (L ++ (m ++ Z)) (fun u D' M' => u = .tuple #[] ∧ Le D D' ∧ ∃ m', Tm D' b t' m' ∧ M' = L ++ (m' ++ Z))
theorem Spec.out {P : Program} {g : Gl} {f : FuncId} {vs : List Value} {D : Dict} {M : MList} {K K' : Value → Dict → MList → Prop} (h : Spec P g f vs D M K) (hK : ∀ v D' M', K v D' M' → ∃ M'', M''.Perm M' ∧ K' v D' M'') : Spec P g f vs D M K' :=
  fun w hs => (h w hs).mono fun _ _ ⟨v, D', M', h1, h2, h3⟩ => by
    obtain ⟨M'', h4, h5⟩ := hK v D' M' h3
    exact ⟨v, D', M'', h1, h2.perm h4, h5⟩
/-- what stands ahead of and behind the turn's memory does not matter -/
theorem Spec.around {P : Program} {g : Gl} {f : FuncId} {vs : List Value} {D : Dict} {L m Z : MList} {R : Value → Dict → MList → Prop} (h : ∀ Z, Spec P g f vs D (m ++ Z) (fun u D' M' => ∃ m', R u D' m' ∧ M' = m' ++ Z)) : Spec P g f vs D (L ++ (m ++ Z)) (fun u D' M' => ∃ m', R u D' m' ∧ M' = L ++ (m' ++ Z)) :=
  Spec.st (fun w hs => hs.perm (M' := m ++ (L ++ Z)) permQ) (Spec.out (h (L ++ Z)) fun u D' M' ⟨m', h1, h2⟩ => ⟨L ++ (m' ++ Z), by rw [h2]; exact permQ, m', h1, rfl⟩)
theorem MS.of {f : FuncId} {vs : List Value} {b : Nat} {t t' : Tn} (h : ∀ (g : Gl) (D : Dict) (Z q : MList) (v o : Value), Vws D v t.r.vs → UO o t.out q → Spec Tryz.prog g f vs D (tb b v o t :: (q ++ Z)) (fun u D' M' => ∃ m', (u = .tuple #[] ∧ Le D D' ∧ Tm D' b t' m') ∧ M' = m' ++ Z)) : MS f vs b t t' := by
  intro g D L Z m hT
  obtain ⟨v, o, q, h1, h2, rfl⟩ := hT
  exact (Spec.around (R := fun u D' m' => u = .tuple #[] ∧ Le D D' ∧ Tm D' b t' m') (m := tb b v o t :: q) (L := L) (Z := Z) (fun Z => h g D Z q v o h1 h2)).mono fun u D' M' ⟨m', ⟨h3, h4, h5⟩, h6⟩ => ⟨h3, h4, m', h5, h6⟩
theorem send_spec {b : Nat} (t : Tn) (to : Int) (ob : Ob) (hn : t.out.length ≤ 10000) : MS 59 [.pointer (some ⟨b, 0, none⟩), .int .i64 to, .agg (Ob.cells ob).toArray] b t (t.send to ob) := by
  refine MS.of fun g D Z q sv so hV hO => ?_
  have hle : Le D D := Le.rfl'
  refine Spec.enter Tryz.func59 rfl Tryz.ntmps59 rfl ?_; refine R.sq ?_; refine R.rg ?_; refine R.bxA (fun b5 hb5 => ?_); refine R.nl ?_; refine R.hs (e' := [(0, _), (1, _), (5, _)]) ?_; refine R.sq ?_; refine R.rg ?_; refine R.mv ?_
  first | refine R.nc ?_ | refine R.ncf ?_
  refine R.fa Tryz.runUnderlying78 Tryz.sizeOf26 ?_; refine R.fa Tryz.runUnderlying26 Tryz.sizeOf3 ?_; refine R.ld Tryz.isAgg3 ?_; refine R.fa Tryz.runUnderlying30 Tryz.sizeOf3 ?_; refine R.st Tryz.sizeOf3 ?_; refine R.nl ?_; refine R.hs (e' := [(0, _), (1, _), (5, _)]) ?_; refine Run.drawY Grow.le 10 9 13 (fun _ => (fun v M' => ∃ q', UO v (t.out ++ [⟨to, { ob with dest := t.r.dest }⟩]) q' ∧ M' = q' ++ ([(b5, .cells (Ob.cells { ob with dest := t.r.dest }).toArray 30 (0, 0)), tb b sv so t] ++ Z))) (fun _ => (fun _ _ => False)) (fun _ => (fun _ _ _ => False)) [(0, _), (1, _), (5, _)] mix (by kernel_rfl) (by repeat (first | exact trivial | refine ⟨rfl, ?_⟩)) (fun _ _ _ _ _ h => h) (fun _ _ _ _ _ h => h) (fun _ _ _ _ _ _ h => h) ?_; apply TY.late []; exact rfl; kernel_rfl
  ·rintro zD2 zM hzM hzD2 
   try replace hle := hle.mono hzD2
   try replace hV := hV.mono hzD2
   refine R.mv ?_; refine R.nl ?_; exact Run.loc rfl Le.rfl' rfl
  apply TY.val []; exact rfl; kernel_rfl
  · exact (.inr (fun _ _ _ h => h))
  ·rintro zD3  hzD3 
   try replace hle := hle.mono hzD3
   try replace hV := hV.mono hzD3
   refine R.mv ?_; refine R.nl ?_; exact Run.loc rfl Le.rfl' rfl
  apply TY.val [0]; exact rfl; kernel_rfl
  · exact (.inr (fun _ _ _ h => h))
  ·rintro zD4  hzD4 _ rfl
   try replace hle := hle.mono hzD4
   try replace hV := hV.mono hzD4
   first | refine R.nc ?_ | refine R.ncf ?_
   refine R.nl ?_; exact Run.loc rfl Le.rfl' rfl
  apply TY.val [0]; exact rfl; kernel_rfl
  · exact (.inr (fun _ _ _ h => h))
  ·rintro zD5  hzD5 _ rfl
   try replace hle := hle.mono hzD5
   try replace hV := hV.mono hzD5
   refine R.fa Tryz.runUnderlying78 Tryz.sizeOf34 ?_; refine R.nl ?_; exact Run.loc rfl Le.rfl' rfl
  apply TY.val [0]; exact rfl; kernel_rfl
  · exact (.inr (fun _ _ _ h => h))
  ·rintro zD6  hzD6 _ rfl
   try replace hle := hle.mono hzD6
   try replace hV := hV.mono hzD6
   refine R.ld Tryz.isAgg34 ?_; refine R.nl ?_; exact Run.loc rfl Le.rfl' rfl
  apply TY.val []; exact rfl; kernel_rfl
  · exact (.inr (fun _ _ _ h => h))
  ·rintro zD7  hzD7 
   try replace hle := hle.mono hzD7
   try replace hV := hV.mono hzD7
   refine R.mv ?_; refine R.nl ?_; exact Run.loc rfl Le.rfl' rfl
  apply TY.val []; exact rfl; kernel_rfl
  · exact (.inr (fun _ _ _ h => h))
  ·rintro zD8  hzD8 
   try replace hle := hle.mono hzD8
   try replace hV := hV.mono hzD8
   refine R.lA 12 Tryz.isAgg30 Tryz.sizeOf30 ?_; refine R.nl ?_; exact Run.loc rfl Le.rfl' rfl
  apply TY.val [1, 0]; exact rfl; kernel_rfl
  · exact (.inr (fun _ _ _ h => h))
  ·rintro zD9  hzD9 _ rfl _ rfl
   try replace hle := hle.mono hzD9
   try replace hV := hV.mono hzD9
   refine R.bd Tryz.zeroValue50 places50 ?_; refine R.nl ?_; exact Run.loc rfl Le.rfl' rfl
  refine TY.fct [0] (by exact rfl) (by kernel_rfl) (.inr (fun _ _ _ h => h)) (fun v D' => Lst D' 13 Ou.cells v [⟨to, { ob with dest := t.r.dest }⟩]) (fun _ _ _ hR h => h.mono hR) ?_ ?_
  ·rintro zD10  hzD10 _ rfl
   try replace hle := hle.mono hzD10
   try replace hV := hV.mono hzD10
   refine R.bs zc50 Tryz.runUnderlying34 Tryz.sizeOf50 Tryz.zeroValue50 (fun b6 hb6 => ?_); refine Run.freeze fun hlf hfr => ?_; refine R.nl ?_; exact Run.loc rfl hlf (Lst.lit _ ins_self rfl Ou.len rfl (by decide) (by decide))
  refine TY.eff1 (dx := (some 21)) [4, 0] (by exact rfl) (by exact rfl) (by kernel_rfl) ?_ ?_ ?_
  ·rintro zD11  hzD11 _ rfl vl hvl
   try replace hle := hle.mono hzD11
   try replace hV := hV.mono hzD11
   refine R.ap Tryz.underlying34 info50 (hO) (permQ (a := [_, _])) (hvl.src _) (by simp; omega) (onesF Ou.ones) ?_; intro v' q' hO'; refine R.nl ?_; exact Run.effv rfl Le.rfl' (⟨q', OL.cat (ys := [(⟨to, { ob with dest := t.r.dest }⟩ : Ou)]) hO' rfl rfl, rfl⟩)
  · exact .inl (.inr (fun _ _ _ h => h))
  refine TY.fin1 (dx := (some 21)) (by rfl) (by kernel_rfl) (by exact rfl) ?_; rintro zD12 zv zM ⟨q', hO', hzM⟩ hzD12  vl hvl _ rfl _ rfl _ rfl _ rfl _ rfl _ rfl _ rfl _ rfl
  try replace hle := hle.mono hzD12
  try replace hV := hV.mono hzD12
  subst hzM
  obtain ⟨A, c, hvf, _⟩ := hO'.form
  subst hvf
  refine Run.st (fun w hs => hs.perm permQ) ?_
  first | refine R.nc ?_ | refine R.ncf ?_
  refine R.fa Tryz.runUnderlying78 Tryz.sizeOf34 ?_; refine R.st Tryz.sizeOf34 ?_; refine R.nl ?_; refine R.hs (e' := []) ?_; exact R.fn (u := .tuple #[]) .nil 1 ⟨_ :: q', ⟨rfl, hle, sv, _, q', hV, hO', rfl⟩, rfl⟩
end Go.Proofs.YtgdpjpmjcpieiaaGreat

/- A route that is turned: tell, clear, seek, miss, refresh, forget. No condition. -/
namespace Go.Proofs.YtgdpjpmjcpieiaaGreat
open Go
set_option linter.unusedVariables false
set_option linter.unusedSimpArgs false
set_option maxRecDepth 100000
set_option maxHeartbeats 0
theorem MS.at {f : FuncId} {vs : List Value} {b : Nat} {t t' : Tn} (h : MS f vs b t t') {g : Gl} {D : Dict} {v o : Value} {q : MList} (hV : Vws D v t.r.vs) (hO : UO o t.out q) (L Z : MList) :
    Spec Tryz.prog g f vs D (L ++ (tb b v o t :: (q ++ Z))) (fun u D' M' => u = .tuple #[] ∧ Le D D' ∧ ∃ v' o' q', Vws D' v' t'.r.vs ∧ UO o' t'.out q' ∧ M' = L ++ (tb b v' o' t' :: (q' ++ Z))) :=
  (h g D L Z (tb b v o t :: q) ⟨v, o, q, hV, hO, rfl⟩).mono fun u D' M' ⟨h1, h2, m', ⟨v', o', q', h3, h4, h5⟩, h6⟩ => ⟨h1, h2, v', o', q', h3, h4, by rw [h6, h5]; rfl⟩
theorem home_spec {g : Gl} {D : Dict} {M : MList} {b : Nat} {v o : Value} {t : Tn} (hm : tb b v o t ∈ M) : Gives Tryz.prog g 95 [.pointer (some ⟨b, 0, none⟩)] D M (.bool t.home) := by
  refine Gives.enter Tryz.func95 rfl Tryz.ntmps95 ?_; refine R.sq ?_; refine R.rg ?_; refine R.as ?_; refine R.nl ?_; refine R.hs (e' := [(0, _)]) ?_; refine R.sq ?_; refine Run.drawC Grow.eq 10 [(0, _)] mix (by kernel_rfl) (by repeat (first | exact trivial | refine ⟨rfl, ?_⟩)) ?_; apply TC.val []; exact rfl; kernel_rfl
  ·rintro _  rfl ; refine R.mv ?_; refine R.nl ?_; exact Run.loc rfl rfl rfl
  apply TC.val [0]; exact rfl; kernel_rfl
  ·rintro _  rfl _ rfl
   first | refine R.nc ?_ | refine R.ncf ?_
   refine R.nl ?_; exact Run.loc rfl rfl rfl
  apply TC.val [0]; exact rfl; kernel_rfl
  ·rintro _  rfl _ rfl; refine R.fa Tryz.runUnderlying78 Tryz.sizeOf26 ?_; refine R.nl ?_; exact Run.loc rfl rfl rfl
  apply TC.val [0]; exact rfl; kernel_rfl
  ·rintro _  rfl _ rfl; refine R.fa Tryz.runUnderlying26 Tryz.sizeOf3 ?_; refine R.nl ?_; exact Run.loc rfl rfl rfl
  apply TC.val [0]; exact rfl; kernel_rfl
  ·rintro _  rfl _ rfl; refine R.ld Tryz.isAgg3 ?_ (hc := Cs.mkM (n := 1) hm rfl); refine R.nl ?_; exact Run.loc rfl rfl rfl
  apply TC.val []; exact rfl; kernel_rfl
  ·rintro _  rfl ; refine R.mv ?_; refine R.nl ?_; exact Run.loc rfl rfl rfl
  apply TC.val [0]; exact rfl; kernel_rfl
  ·rintro _  rfl _ rfl
   first | refine R.nc ?_ | refine R.ncf ?_
   refine R.nl ?_; exact Run.loc rfl rfl rfl
  apply TC.val [0]; exact rfl; kernel_rfl
  ·rintro _  rfl _ rfl; refine R.fa Tryz.runUnderlying78 Tryz.sizeOf26 ?_; refine R.nl ?_; exact Run.loc rfl rfl rfl
  apply TC.val [0]; exact rfl; kernel_rfl
  ·rintro _  rfl _ rfl; refine R.fa Tryz.runUnderlying26 Tryz.sizeOf3 ?_; refine R.nl ?_; exact Run.loc rfl rfl rfl
  apply TC.val [0]; exact rfl; kernel_rfl
  ·rintro _  rfl _ rfl; refine R.ld Tryz.isAgg3 ?_ (hc := Cs.mkM (n := 1) hm rfl); refine R.nl ?_; exact Run.loc rfl rfl rfl
  refine TC.fin (by rfl) ?_; rintro _  rfl _ rfl _ rfl _ rfl _ rfl _ rfl _ rfl _ rfl _ rfl _ rfl _ rfl; refine R.cm ?_; refine R.as ?_; refine R.nl ?_; refine R.hs (e' := [(2, _)]) ?_; exact R.rt (RV.t .nil) 0 rfl
theorem tell_spec {b : Nat} (t : Tn) (to : Int) (hn : t.out.length ≤ 10000) : MS 58 [.pointer (some ⟨b, 0, none⟩), .int .i64 to] b t (t.tell to) := by
  refine MS.of fun g D Z q sv so hV hO => ?_
  refine Spec.enter Tryz.func58 rfl Tryz.ntmps58 rfl ?_; refine R.rg ?_; refine R.mv ?_; refine R.mv ?_; refine R.mv ?_
  first | refine R.nc ?_ | refine R.ncf ?_
  refine R.fa Tryz.runUnderlying78 Tryz.sizeOf26 ?_; refine R.fa Tryz.runUnderlying26 Tryz.sizeOf23 ?_; refine R.lA 6 Tryz.isAgg23 Tryz.sizeOf23 ?_; refine R.bd Tryz.zeroValue30 places30 ?_; refine R.ca Tryz.call59 ((send_spec t to ⟨2, 0, t.r.own, z0L, 0⟩ hn).at hV hO [] Z) ?_; rintro _ D1 _ ⟨rfl, hl1, sv1, so1, q1, hV1, hO1, rfl⟩; refine R.nl ?_; refine R.hs (e' := []) ?_; exact R.fn (u := .tuple #[]) .nil 0 ⟨_ :: q1, ⟨rfl, hl1, sv1, so1, q1, hV1, hO1, rfl⟩, rfl⟩
theorem clear_spec {b : Nat} (t : Tn) (to : Int) (l : Lv) (hn : t.out.length ≤ 10000) : MS 103 [.pointer (some ⟨b, 0, none⟩), .int .i64 to, .agg (Lv.cells l).toArray] b t (t.clear to l) := by
  refine MS.of fun g D Z q sv so hV hO => ?_
  refine Spec.enter Tryz.func103 rfl Tryz.ntmps103 rfl ?_; refine R.sq ?_; refine R.rg ?_; refine R.bxA (fun b5 hb5 => ?_); refine R.nl ?_; refine R.hs (e' := [(0, _), (1, _), (5, _)]) ?_; refine R.rg ?_; refine R.mv ?_; refine R.mv ?_; refine R.lA 3 Tryz.isAgg28 Tryz.sizeOf28 ?_; refine R.bd Tryz.zeroValue30 places30 ?_; refine R.ca Tryz.call59 ((send_spec t to ⟨3, 0, z0H, l, 0⟩ hn).at hV hO [(b5, .cells (Lv.cells l).toArray 28 (0, 0))] Z) ?_; rintro _ D1 _ ⟨rfl, hl1, sv1, so1, q1, hV1, hO1, rfl⟩; refine R.nl ?_; refine R.hs (e' := []) ?_; exact R.fn (u := .tuple #[]) .nil 1 ⟨_ :: q1, ⟨rfl, hl1, sv1, so1, q1, hV1, hO1, rfl⟩, rfl⟩
def Tn.refresh (t : Tn) (k : Int) : Tn := ({ t with r := { t.r with heard := true, last := k } } : Tn).send 255 ⟨4, 0, t.r.own, z0L, k⟩
theorem refresh_spec {b : Nat} (t : Tn) (k : Int) (hn : t.out.length ≤ 10000) : MS 73 [.pointer (some ⟨b, 0, none⟩), .int .i64 k] b t (t.refresh k) := by
  refine MS.of fun g D Z q sv so hV hO => ?_
  refine Spec.enter Tryz.func73 rfl Tryz.ntmps73 rfl ?_; refine R.sq ?_; refine R.rg ?_; refine R.mv ?_; refine R.mv ?_; refine R.mv ?_
  first | refine R.nc ?_ | refine R.ncf ?_
  refine R.fa Tryz.runUnderlying78 Tryz.sizeOf26 ?_; refine R.fa Tryz.runUnderlying26 Tryz.sizeOf4 ?_; refine R.st Tryz.sizeOf4 ?_
  first | refine R.nc ?_ | refine R.ncf ?_
  refine R.fa Tryz.runUnderlying78 Tryz.sizeOf26 ?_; refine R.fa Tryz.runUnderlying26 Tryz.sizeOf3 ?_; refine R.st Tryz.sizeOf3 ?_; refine R.nl ?_; refine R.hs (e' := [(0, _), (1, _)]) ?_; refine R.rg ?_; refine R.mv ?_; refine R.mv ?_
  first | refine R.nc ?_ | refine R.ncf ?_
  refine R.fa Tryz.runUnderlying78 Tryz.sizeOf26 ?_; refine R.fa Tryz.runUnderlying26 Tryz.sizeOf23 ?_; refine R.lA 6 Tryz.isAgg23 Tryz.sizeOf23 ?_; refine R.mv ?_; refine R.bd Tryz.zeroValue30 places30 ?_; refine R.ca Tryz.call59 ((send_spec ({ t with r := { t.r with heard := true, last := k } } : Tn) 255 ⟨4, 0, t.r.own, z0L, k⟩ hn).at hV hO [] Z) ?_; rintro _ D1 _ ⟨rfl, hl1, sv1, so1, q1, hV1, hO1, rfl⟩; refine R.nl ?_; refine R.hs (e' := []) ?_; exact R.fn (u := .tuple #[]) .nil 0 ⟨_ :: q1, ⟨rfl, hl1, sv1, so1, q1, hV1, hO1, rfl⟩, rfl⟩
theorem late2 {x : Nat × Obj} {p : Value → Nat → Prop} {r : Value → Value → Nat → Prop} {f : Value → Nat → Nat × Obj} {k : Value → Value → Nat → Nat × Obj} {l zM : MList} (hz : zM = x :: l ∨ (∃ v b, p v b ∧ zM = f v b :: x :: l) ∨ (∃ _ : Value, False) ∨ ∃ v w b, r v w b ∧ zM = k v w b :: x :: l) : x ∈ zM := by
  rcases hz with rfl | ⟨_, _, _, rfl⟩ | ⟨_, h⟩ | ⟨_, _, _, _, rfl⟩
  · exact .head _
  · exact .tail _ (.head _)
  · exact h.elim
  · exact .tail _ (.head _)
def Tn.seek (t : Tn) : Tn :=
  if (adoptR t.r.vs t.r.me).2 = 0 then ({ t with r := { t.r with own := (adoptR t.r.vs t.r.me).1, asked := false } } : Tn).tell 255
  else if (adoptR t.r.vs t.r.me).2 = 7 then (if t.r.asked then t else ({ t with r := { t.r with asked := true } } : Tn).ask 255)
  else { t with e := (adoptR t.r.vs t.r.me).2 }
theorem seek_spec {b : Nat} (t : Tn) (hn : t.out.length ≤ 10000) : MS 96 [.pointer (some ⟨b, 0, none⟩)] b t t.seek := by
  refine MS.of fun g D Z q sv so hV hO => ?_
  refine Spec.enter Tryz.func96 rfl Tryz.ntmps96 rfl ?_; refine R.sq ?_; refine Run.drawY Grow.eq 16 14 15 (fun _ => (fun v M' => ∃ b2, v = .pointer (some ⟨b2, 0, none⟩) ∧ M' = (b2, .cells (Ht.cells z0H).toArray 23 (0, 0)) :: (tb b sv so t :: (q ++ Z)))) (fun _ => (fun _ _ => False)) (fun _ => (fun v w M' => ∃ b2, v = .pointer (some ⟨b2, 0, none⟩) ∧ M' = (b2, .cells (Ht.cells (adoptR t.r.vs t.r.me).1).toArray 23 (0, 0)) :: (tb b sv so t :: (q ++ Z)))) [(0, _)] mix (by kernel_rfl) (by repeat (first | exact trivial | refine ⟨rfl, ?_⟩)) (fun _ _ _ _ _ h => h) (fun _ _ _ _ _ h => h) (fun _ _ _ _ _ _ h => h) ?_; apply TY.late []; exact rfl; kernel_rfl
  ·rintro _ zM hzM rfl ; refine R.mv ?_; refine R.nl ?_; exact Run.loc rfl rfl rfl
  apply TY.late [0]; exact rfl; kernel_rfl
  ·rintro _ zM hzM rfl _ rfl
   first | refine R.nc ?_ | refine R.ncf ?_
   refine R.nl ?_; exact Run.loc rfl rfl rfl
  apply TY.late [0]; exact rfl; kernel_rfl
  ·rintro _ zM hzM rfl _ rfl; refine R.fa Tryz.runUnderlying78 Tryz.sizeOf26 ?_; refine R.nl ?_; exact Run.loc rfl rfl rfl
  apply TY.late [0]; exact rfl; kernel_rfl
  ·rintro _ zM hzM rfl _ rfl; refine R.fa Tryz.runUnderlying26 Tryz.sizeOf24 ?_; refine R.nl ?_; exact Run.loc rfl rfl rfl
  apply TY.late [0]; exact rfl; kernel_rfl
  ·rintro _ zM hzM rfl _ rfl; refine R.ld Tryz.isAgg24 ?_ (hc := Cs.mkM (n := 1) (show tb b sv so t ∈ zM from late2 hzM) rfl); refine R.nl ?_; exact Run.loc rfl rfl rfl
  apply TY.late []; exact rfl; kernel_rfl
  ·rintro _ zM hzM rfl ; refine R.mv ?_; refine R.nl ?_; exact Run.loc rfl rfl rfl
  apply TY.late [0]; exact rfl; kernel_rfl
  ·rintro _ zM hzM rfl _ rfl
   first | refine R.nc ?_ | refine R.ncf ?_
   refine R.nl ?_; exact Run.loc rfl rfl rfl
  apply TY.late [0]; exact rfl; kernel_rfl
  ·rintro _ zM hzM rfl _ rfl; refine R.fa Tryz.runUnderlying78 Tryz.sizeOf26 ?_; refine R.nl ?_; exact Run.loc rfl rfl rfl
  apply TY.late [0]; exact rfl; kernel_rfl
  ·rintro _ zM hzM rfl _ rfl; refine R.fa Tryz.runUnderlying26 Tryz.sizeOf3 ?_; refine R.nl ?_; exact Run.loc rfl rfl rfl
  apply TY.late [0]; exact rfl; kernel_rfl
  ·rintro _ zM hzM rfl _ rfl; refine R.ld Tryz.isAgg3 ?_ (hc := Cs.mkM (n := 1) (show tb b sv so t ∈ zM from late2 hzM) rfl); refine R.nl ?_; exact Run.loc rfl rfl rfl
  apply TY.late [5, 0]; exact rfl; kernel_rfl
  ·rintro _ zM hzM rfl _ rfl _ rfl; refine R.cg Tryz.call118 (adopt_spec t.r.me hV) ?_; refine R.nl ?_; exact Run.loc rfl rfl rfl
  apply TY.late [0]; exact rfl; kernel_rfl
  ·rintro _ zM hzM rfl _ rfl; refine R.mv ?_; refine R.nl ?_; exact Run.loc rfl rfl rfl
  apply TY.late [0]; exact rfl; kernel_rfl
  ·rintro _ zM hzM rfl _ rfl; refine R.ex ?_; refine R.nl ?_; exact Run.loc rfl rfl rfl
  apply TY.late [1]; exact rfl; kernel_rfl
  ·rintro _ zM hzM rfl _ rfl; refine R.ex ?_; refine R.nl ?_; exact Run.loc rfl rfl rfl
  refine TY.eff1 (dx := (some 2)) [] (by exact rfl) (by exact rfl) (by kernel_rfl) ?_ ?_ ?_
  ·rintro _  rfl ; refine R.alA Tryz.zeroValue23 (fun b2 hb2 => ?_); refine R.nl ?_; exact Run.effv rfl rfl (⟨b2, rfl, rfl⟩)
  · exact .inl (.inr (fun _ _ _ h => h))
  refine TY.eff2 (dy := (none)) [2] (by exact rfl) (by exact rfl) (by kernel_rfl) ?_ ?_ ?_
  ·rintro _ zv zM ⟨b2, rfl, rfl⟩ rfl _ rfl; refine R.st Tryz.sizeOf23 ?_; refine R.nl ?_; exact Run.effn rfl (⟨b2, rfl, rfl⟩)
  · exact .inl (by kernel_rfl)
  refine TY.fin2 (dx := (some 2)) (dy := (none)) (by rfl) (by kernel_rfl) (by exact rfl) (by exact rfl) ?_; rintro _ zv zv2 zM ⟨b2, rfl, rfl⟩ rfl   _ rfl _ rfl _ rfl _ rfl _ rfl _ rfl _ rfl _ rfl _ rfl _ rfl _ rfl _ rfl _ rfl _ rfl; refine R.as ?_; refine R.nl ?_; refine R.hs (e' := [(0, _), (2, _), (3, _)]) ?_; refine R.sq ?_; refine R.rg ?_; refine R.mv ?_; refine R.nl ?_; refine R.hs (e' := [(0, _), (2, _), (3, _), (18, _)]) ?_; refine Run.block ?_; refine R.sq ?_; refine R.rg ?_; refine R.cm ?_; refine R.as ?_; refine R.nl ?_; refine R.hs (e' := [(0, _), (2, _), (3, _), (18, _), (23, _)]) ?_; refine R.cd (fun zc19 => ?_) (fun zc19 => ?_)
  ·
   have h0 : (adoptR t.r.vs t.r.me).2 = 0 := by simpa using zc19
   have hs : t.seek = ({ t with r := { t.r with own := (adoptR t.r.vs t.r.me).1, asked := false } } : Tn).tell 255 := by rw [Tn.seek, if_pos h0]
   refine R.sq ?_; refine R.rg ?_; refine R.mv ?_; refine R.mv ?_; refine R.lA 6 Tryz.isAgg23 Tryz.sizeOf23 ?_
   first | refine R.nc ?_ | refine R.ncf ?_
   refine R.fa Tryz.runUnderlying78 Tryz.sizeOf26 ?_; refine R.fa Tryz.runUnderlying26 Tryz.sizeOf23 ?_; refine R.st Tryz.sizeOf23 ?_
   first | refine R.nc ?_ | refine R.ncf ?_
   refine R.fa Tryz.runUnderlying78 Tryz.sizeOf26 ?_; refine R.fa Tryz.runUnderlying26 Tryz.sizeOf4 ?_; refine R.st Tryz.sizeOf4 ?_; refine R.nl ?_; refine R.hs (e' := [(0, _)]) ?_; refine R.rg ?_; refine R.mv ?_; refine R.ca Tryz.call58 ((tell_spec ({ t with r := { t.r with own := (adoptR t.r.vs t.r.me).1, asked := false } } : Tn) 255 hn).at hV hO [(b2, .cells (Ht.cells (adoptR t.r.vs t.r.me).1).toArray 23 (0, 0))] Z) ?_; rintro _ D1 _ ⟨rfl, hl1, sv1, so1, q1, hV1, hO1, rfl⟩; refine R.nl ?_; refine R.hs (e' := []) ?_; refine Run.endBlock ?_
   rw [hs]
   first
   | exact R.fn (u := .tuple #[]) .nil 1 ⟨_ :: q1, ⟨rfl, hl1, sv1, so1, q1, hV1, hO1, rfl⟩, rfl⟩
   | exact R.fn (u := .tuple #[]) .nil 1 ⟨_ :: q, ⟨rfl, Le.rfl', sv, so, q, hV, hO, rfl⟩, rfl⟩
  ·
   have h0 : ¬ (adoptR t.r.vs t.r.me).2 = 0 := by simpa using zc19
   refine R.sq ?_; refine R.rg ?_; refine R.cm ?_; refine R.as ?_; refine R.nl ?_; refine R.hs (e' := [(0, _), (3, _), (36, _)]) ?_; refine R.cd (fun zc20 => ?_) (fun zc20 => ?_)
   ·
    have h7 : (adoptR t.r.vs t.r.me).2 = 7 := by simpa using zc20
    refine R.sq ?_; refine R.rg ?_; refine R.mv ?_
    first | refine R.nc ?_ | refine R.ncf ?_
    refine R.fa Tryz.runUnderlying78 Tryz.sizeOf26 ?_; refine R.fa Tryz.runUnderlying26 Tryz.sizeOf4 ?_; refine R.ld Tryz.isAgg4 ?_; refine R.nt ?_; refine R.nl ?_; refine R.hs (e' := [(0, _), (43, _)]) ?_; refine R.cd (fun zc21 => ?_) (fun zc21 => ?_)
    ·
     have ha : ¬ t.r.asked = true := by simpa using zc21
     have hs : t.seek = ({ t with r := { t.r with asked := true } } : Tn).ask 255 := by rw [Tn.seek, if_neg h0, if_pos h7, if_neg ha]
     refine R.sq ?_; refine R.rg ?_; refine R.mv ?_
     first | refine R.nc ?_ | refine R.ncf ?_
     refine R.fa Tryz.runUnderlying78 Tryz.sizeOf26 ?_; refine R.fa Tryz.runUnderlying26 Tryz.sizeOf4 ?_; refine R.st Tryz.sizeOf4 ?_; refine R.nl ?_; refine R.hs (e' := [(0, _)]) ?_; refine R.rg ?_; refine R.mv ?_; refine R.bd Tryz.zeroValue30 places30 ?_; refine R.ca Tryz.call59 ((send_spec ({ t with r := { t.r with asked := true } } : Tn) 255 ⟨1, 0, z0H, z0L, 0⟩ hn).at hV hO [(b2, .cells (Ht.cells (adoptR t.r.vs t.r.me).1).toArray 23 (0, 0))] Z) ?_; rintro _ D1 _ ⟨rfl, hl1, sv1, so1, q1, hV1, hO1, rfl⟩; refine R.nl ?_; refine R.hs (e' := []) ?_; refine Run.endBlock ?_
     rw [hs]
     first
     | exact R.fn (u := .tuple #[]) .nil 1 ⟨_ :: q1, ⟨rfl, hl1, sv1, so1, q1, hV1, hO1, rfl⟩, rfl⟩
     | exact R.fn (u := .tuple #[]) .nil 1 ⟨_ :: q, ⟨rfl, Le.rfl', sv, so, q, hV, hO, rfl⟩, rfl⟩
    ·
     have ha : t.r.asked = true := by simpa using zc21
     have hs : t.seek = t := by rw [Tn.seek, if_neg h0, if_pos h7, if_pos ha]
     refine Run.skip ?_; refine Run.endBlock ?_
     rw [hs]
     first
     | exact R.fn (u := .tuple #[]) .nil 1 ⟨_ :: q1, ⟨rfl, hl1, sv1, so1, q1, hV1, hO1, rfl⟩, rfl⟩
     | exact R.fn (u := .tuple #[]) .nil 1 ⟨_ :: q, ⟨rfl, Le.rfl', sv, so, q, hV, hO, rfl⟩, rfl⟩
   ·
    have h7 : ¬ (adoptR t.r.vs t.r.me).2 = 7 := by simpa using zc20
    have hs : t.seek = { t with e := (adoptR t.r.vs t.r.me).2 } := by rw [Tn.seek, if_neg h0, if_neg h7]
    refine R.rg ?_; refine R.mv ?_; refine R.mv ?_
    first | refine R.nc ?_ | refine R.ncf ?_
    refine R.fa Tryz.runUnderlying78 Tryz.sizeOf35 ?_; refine R.st Tryz.sizeOf35 ?_; refine R.nl ?_; refine R.hs (e' := []) ?_; refine Run.endBlock ?_
    rw [hs]
    first
    | exact R.fn (u := .tuple #[]) .nil 1 ⟨_ :: q1, ⟨rfl, hl1, sv1, so1, q1, hV1, hO1, rfl⟩, rfl⟩
    | exact R.fn (u := .tuple #[]) .nil 1 ⟨_ :: q, ⟨rfl, Le.rfl', sv, so, q, hV, hO, rfl⟩, rfl⟩
end Go.Proofs.YtgdpjpmjcpieiaaGreat

/- A route that is turned: miss, forget. No condition. -/
namespace Go.Proofs.YtgdpjpmjcpieiaaGreat
open Go
set_option linter.unusedVariables false
set_option linter.unusedSimpArgs false
set_option maxRecDepth 100000
set_option maxHeartbeats 0
def Tn.miss (t : Tn) : Tn := if t.r.own.null && t.r.want && !t.r.asked && !t.home then t.seek else t
theorem miss_spec {b : Nat} (t : Tn) (hn : t.out.length ≤ 10000) : MS 54 [.pointer (some ⟨b, 0, none⟩)] b t t.miss := by
  refine MS.of fun g D Z q sv so hV hO => ?_
  refine Spec.enter Tryz.func54 rfl Tryz.ntmps54 rfl ?_; refine R.sq ?_; refine R.rg ?_; refine R.mv ?_
  first | refine R.nc ?_ | refine R.ncf ?_
  refine R.fa Tryz.runUnderlying78 Tryz.sizeOf26 ?_; refine R.fa Tryz.runUnderlying26 Tryz.sizeOf23 ?_; refine R.fa Tryz.runUnderlying23 Tryz.sizeOf4 ?_; refine R.ld Tryz.isAgg4 ?_; refine R.mv ?_; refine R.gd (fun zg1 => ?_) (fun zg1 => ?_)
  ·refine R.mv ?_; refine R.gY (zg1) ?_
   first | refine R.nc ?_ | refine R.ncf ?_
   refine R.gY (zg1) ?_; refine R.fa Tryz.runUnderlying78 Tryz.sizeOf26 ?_; refine R.gY (zg1) ?_; refine R.fa Tryz.runUnderlying26 Tryz.sizeOf4 ?_; refine R.gY (zg1) ?_; refine R.ld Tryz.isAgg4 ?_; refine R.pT (zg1) ?_; refine R.mv ?_; refine R.gd (fun zg2 => ?_) (fun zg2 => ?_)
   ·refine R.mv ?_; refine R.gY (zg2) ?_
    first | refine R.nc ?_ | refine R.ncf ?_
    refine R.gY (zg2) ?_; refine R.fa Tryz.runUnderlying78 Tryz.sizeOf26 ?_; refine R.gY (zg2) ?_; refine R.fa Tryz.runUnderlying26 Tryz.sizeOf4 ?_; refine R.gY (zg2) ?_; refine R.ld Tryz.isAgg4 ?_; refine R.gY (zg2) ?_; refine R.nt ?_; refine R.pT (zg2) ?_; refine R.mv ?_; refine R.gd (fun zg3 => ?_) (fun zg3 => ?_)
    ·refine R.mv ?_; refine R.gY (zg3) ?_; refine R.cg Tryz.call95 (home_spec (t := t) (.head _)) ?_; refine R.gY (zg3) ?_; refine R.nt ?_; refine R.pT (zg3) ?_; refine R.nl ?_; refine R.hs (e' := [(0, _), (27, _)]) ?_; refine R.cd (fun zc4 => ?_) (fun zc4 => ?_)
     ·
      have hs : t.miss = t.seek := by rw [Tn.miss, if_pos]; simp_all
      refine R.rg ?_; refine R.mv ?_; refine R.ca Tryz.call96 ((seek_spec t hn).at hV hO [] Z) ?_; rintro _ D1 _ ⟨rfl, hl1, sv1, so1, q1, hV1, hO1, rfl⟩; refine R.nl ?_; refine R.hs (e' := []) ?_
      rw [hs]
      first
      | exact R.fn (u := .tuple #[]) .nil 0 ⟨_ :: q1, ⟨rfl, hl1, sv1, so1, q1, hV1, hO1, rfl⟩, rfl⟩
      | exact R.fn (u := .tuple #[]) .nil 0 ⟨_ :: q, ⟨rfl, Le.rfl', sv, so, q, hV, hO, rfl⟩, rfl⟩
     ·
      have hs : t.miss = t := by rw [Tn.miss, if_neg]; simp_all
      refine Run.skip ?_
      rw [hs]
      first
      | exact R.fn (u := .tuple #[]) .nil 0 ⟨_ :: q1, ⟨rfl, hl1, sv1, so1, q1, hV1, hO1, rfl⟩, rfl⟩
      | exact R.fn (u := .tuple #[]) .nil 0 ⟨_ :: q, ⟨rfl, Le.rfl', sv, so, q, hV, hO, rfl⟩, rfl⟩
    ·refine R.gF (zg3) ?_; refine R.gF (zg3) ?_; refine R.pF (zg3) ?_; refine R.nl ?_; refine R.hs (e' := [(0, _), (27, _)]) ?_; refine R.cF (rfl) ?_
     have hs : t.miss = t := by rw [Tn.miss, if_neg]; simp_all
     refine Run.skip ?_
     rw [hs]
     first
     | exact R.fn (u := .tuple #[]) .nil 0 ⟨_ :: q1, ⟨rfl, hl1, sv1, so1, q1, hV1, hO1, rfl⟩, rfl⟩
     | exact R.fn (u := .tuple #[]) .nil 0 ⟨_ :: q, ⟨rfl, Le.rfl', sv, so, q, hV, hO, rfl⟩, rfl⟩
   ·refine R.gF (zg2) ?_; refine R.gF (zg2) ?_; refine R.gF (zg2) ?_; refine R.gF (zg2) ?_; refine R.gF (zg2) ?_; refine R.pF (zg2) ?_; refine R.mv ?_; refine R.gF (rfl) ?_; refine R.gF (rfl) ?_; refine R.gF (rfl) ?_; refine R.pF (rfl) ?_; refine R.nl ?_; refine R.hs (e' := [(0, _), (27, _)]) ?_; refine R.cF (rfl) ?_
    have hs : t.miss = t := by rw [Tn.miss, if_neg]; simp_all
    refine Run.skip ?_
    rw [hs]
    first
    | exact R.fn (u := .tuple #[]) .nil 0 ⟨_ :: q1, ⟨rfl, hl1, sv1, so1, q1, hV1, hO1, rfl⟩, rfl⟩
    | exact R.fn (u := .tuple #[]) .nil 0 ⟨_ :: q, ⟨rfl, Le.rfl', sv, so, q, hV, hO, rfl⟩, rfl⟩
  ·refine R.gF (zg1) ?_; refine R.gF (zg1) ?_; refine R.gF (zg1) ?_; refine R.gF (zg1) ?_; refine R.pF (zg1) ?_; refine R.mv ?_; refine R.gF (rfl) ?_; refine R.gF (rfl) ?_; refine R.gF (rfl) ?_; refine R.gF (rfl) ?_; refine R.gF (rfl) ?_; refine R.gF (rfl) ?_; refine R.pF (rfl) ?_; refine R.mv ?_; refine R.gF (rfl) ?_; refine R.gF (rfl) ?_; refine R.gF (rfl) ?_; refine R.pF (rfl) ?_; refine R.nl ?_; refine R.hs (e' := [(0, _), (27, _)]) ?_; refine R.cF (rfl) ?_
   have hs : t.miss = t := by rw [Tn.miss, if_neg]; simp_all
   refine Run.skip ?_
   rw [hs]
   first
   | exact R.fn (u := .tuple #[]) .nil 0 ⟨_ :: q1, ⟨rfl, hl1, sv1, so1, q1, hV1, hO1, rfl⟩, rfl⟩
   | exact R.fn (u := .tuple #[]) .nil 0 ⟨_ :: q, ⟨rfl, Le.rfl', sv, so, q, hV, hO, rfl⟩, rfl⟩
def goneV (xs : List Vw) (v : Lv) (keep : Int) : List Int := (xs.filter (fun x => decide (x ≠ forgH keep v x))).map (·.id)
def Tn.forget (t : Tn) (v : Lv) : Tn := { t with r := { t.r with vs := forgetV t.r.vs v t.r.dest } }
theorem gone_succ {xs : List Vw} {v : Lv} {keep : Int} {i : Nat} {x : Vw} (hx : xs[i]? = some x) : goneV (xs.take (i + 1)) v keep = goneV (xs.take i) v keep ++ (if x ≠ forgH keep v x then [x.id] else []) := by
  rw [take_succ' hx]
  by_cases h : x = forgH keep v x
  · have : decide (x ≠ forgH keep v x) = false := by simp [← h]
    simp only [goneV, List.filter_append, List.map_append]
    rw [List.filter_cons_of_neg (by simp [← h]), if_neg (by simp [← h])]; rfl
  · simp only [goneV, List.filter_append, List.map_append]
    rw [List.filter_cons_of_pos (by simpa using h), if_pos h]; rfl
theorem gone_len (xs : List Vw) (v : Lv) (keep : Int) : (goneV xs v keep).length ≤ xs.length := by
  simp only [goneV, List.length_map]; exact List.length_filter_le _ _
theorem turnforget_spec {g : Gl} {D : Dict} {b : Nat} {sv so : Value} {q : MList} (t : Tn) (v : Lv) (hn : t.r.vs.length ≤ 1000) (hV : Vws D sv t.r.vs) (hO : UO so t.out q) (L Z : MList) :
    Spec Tryz.prog g 101 [.pointer (some ⟨b, 0, none⟩), .agg (Lv.cells v).toArray] D (L ++ (tb b sv so t :: (q ++ Z))) (fun u D' M' => Le D D' ∧ Ints D' u (goneV t.r.vs v t.r.dest) ∧ ∃ sv', Vws D' sv' (forgetV t.r.vs v t.r.dest) ∧ M' = L ++ (tb b sv' so (t.forget v) :: (q ++ Z))) := by
  refine Spec.mono (Spec.around (m := tb b sv so t :: q) (L := L) (Z := Z) (R := fun u D' m' => Le D D' ∧ Ints D' u (goneV t.r.vs v t.r.dest) ∧ ∃ sv', Vws D' sv' (forgetV t.r.vs v t.r.dest) ∧ m' = tb b sv' so (t.forget v) :: q) fun Z => ?_) ?_
  · show Spec Tryz.prog g _ _ D (tb b sv so t :: (q ++ Z)) _
    have hle : Le D D := Le.rfl'
    obtain ⟨A0, c0, hsv, _, _⟩ := hV.form
    subst hsv
    refine Spec.enter Tryz.func101 rfl Tryz.ntmps101 rfl ?_; refine R.sq ?_; refine R.rg ?_; refine R.bxA (fun b3 hb3 => ?_); refine R.as ?_; refine R.nl ?_; refine R.hs (e' := [(0, _), (3, _)]) ?_; refine R.sq ?_; refine R.rg ?_; refine R.mv ?_
    first | refine R.nc ?_ | refine R.ncf ?_
    refine R.fa Tryz.runUnderlying78 Tryz.sizeOf26 ?_; refine R.fa Tryz.runUnderlying26 Tryz.sizeOf24 ?_; refine R.ld Tryz.isAgg24 ?_; refine R.as ?_; refine R.nl ?_; refine R.hs (e' := [(0, _), (3, _), (5, _)]) ?_; refine R.sq ?_; refine Run.drawC Grow.le 9 [(0, _), (3, _), (5, _)] mix (by kernel_rfl) (by repeat (first | exact trivial | refine ⟨rfl, ?_⟩)) ?_; apply TC.val []; exact rfl; kernel_rfl
    ·rintro zD2  hzD2 
     try replace hle := hle.mono hzD2
     try replace hV := hV.mono hzD2
     refine R.mv ?_; refine R.nl ?_; exact Run.loc rfl Le.rfl' rfl
    apply TC.val []; exact rfl; kernel_rfl
    ·rintro zD3  hzD3 
     try replace hle := hle.mono hzD3
     try replace hV := hV.mono hzD3
     refine R.mv ?_; refine R.nl ?_; exact Run.loc rfl Le.rfl' rfl
    apply TC.val []; exact rfl; kernel_rfl
    ·rintro zD4  hzD4 
     try replace hle := hle.mono hzD4
     try replace hV := hV.mono hzD4
     refine R.lA 3 Tryz.isAgg28 Tryz.sizeOf28 ?_; refine R.nl ?_; exact Run.loc rfl Le.rfl' rfl
    apply TC.val []; exact rfl; kernel_rfl
    ·rintro zD5  hzD5 
     try replace hle := hle.mono hzD5
     try replace hV := hV.mono hzD5
     refine R.mv ?_; refine R.nl ?_; exact Run.loc rfl Le.rfl' rfl
    apply TC.val [0]; exact rfl; kernel_rfl
    ·rintro zD6  hzD6 _ rfl
     try replace hle := hle.mono hzD6
     try replace hV := hV.mono hzD6
     first | refine R.nc ?_ | refine R.ncf ?_
     refine R.nl ?_; exact Run.loc rfl Le.rfl' rfl
    apply TC.val [0]; exact rfl; kernel_rfl
    ·rintro zD7  hzD7 _ rfl
     try replace hle := hle.mono hzD7
     try replace hV := hV.mono hzD7
     refine R.fa Tryz.runUnderlying78 Tryz.sizeOf26 ?_; refine R.nl ?_; exact Run.loc rfl Le.rfl' rfl
    apply TC.val [0]; exact rfl; kernel_rfl
    ·rintro zD8  hzD8 _ rfl
     try replace hle := hle.mono hzD8
     try replace hV := hV.mono hzD8
     refine R.fa Tryz.runUnderlying26 Tryz.sizeOf3 ?_; refine R.nl ?_; exact Run.loc rfl Le.rfl' rfl
    apply TC.val [0]; exact rfl; kernel_rfl
    ·rintro zD9  hzD9 _ rfl
     try replace hle := hle.mono hzD9
     try replace hV := hV.mono hzD9
     refine R.ld Tryz.isAgg3 ?_; refine R.nl ?_; exact Run.loc rfl Le.rfl' rfl
    apply TC.fctM [6, 5, 0]; exact rfl; kernel_rfl
    ·rintro zD10  hzD10 _ rfl _ rfl _ rfl
     try replace hle := hle.mono hzD10
     try replace hV := hV.mono hzD10
     refine R.gt Tryz.call126 (forget_spec v t.r.dest hn hV) (fun zr2_8 zD11 hzD11 hzr2_8 => ?_)
     try replace hle := hle.mono hzD11
     try replace hV := hV.mono hzD11
     refine R.nl ?_; exact Run.loc rfl hzD11 hzr2_8
    · exact fun _ _ _ hR h => h.mono hR
    refine TC.fin (by rfl) ?_; rintro zD12  hzD12 zr2_8 hzr2_8 _ rfl _ rfl _ rfl _ rfl _ rfl _ rfl _ rfl _ rfl
    try replace hle := hle.mono hzD12
    try replace hV := hV.mono hzD12
    obtain ⟨A1, c1, hvf, _, _⟩ := hzr2_8.form
    subst hvf
    first | refine R.nc ?_ | refine R.ncf ?_
    refine R.fa Tryz.runUnderlying78 Tryz.sizeOf26 ?_; refine R.fa Tryz.runUnderlying26 Tryz.sizeOf24 ?_; refine R.st Tryz.sizeOf24 ?_; refine R.nl ?_; refine R.hs (e' := [(0, _), (5, _)]) ?_; refine R.sq ?_; refine R.rg ?_; refine R.as ?_; refine R.nl ?_; refine R.hs (e' := [(0, _), (5, _), (6, _)]) ?_; refine R.sq ?_; refine R.sq ?_; refine R.rg ?_; refine R.mv ?_; refine R.ln Tryz.runUnderlying24 ?_; refine R.mv ?_; refine R.nl ?_; refine R.hs (e' := [(0, _), (6, _), (26, _), (27, _), (28, _)]) ?_; refine Run.block ?_
    refine Run.loop (ι := Nat × Value × MList) [(0, _), (26, _), (27, _)] (fun p => [(28, .int .i64 (p.1 : Int)), (6, p.2.1)]) (fun _ => ‹Dict›) (fun p => (b3, .cells (Lv.cells v).toArray 28 (0, 0)) :: tb b _ so (t.forget v) :: (p.2.2 ++ (q ++ Z))) (fun p => p.1 ≤ t.r.vs.length ∧ IR p.2.1 (goneV (t.r.vs.take p.1) v t.r.dest) p.2.2) (fun p => t.r.vs.length - p.1) ((0, .slice none 0 0, [])) (by repeat (first | exact trivial | refine ⟨rfl, ?_⟩)) ?h0 (by repeat (first | exact trivial | refine ⟨rfl, ?_⟩)) (fun w hs => hs) ?_
    case h0 => exact ⟨Nat.zero_le _, OL.nil⟩
    rintro ⟨i, w, q2⟩ ⟨hi, hU⟩
    simp only at hi hU
    refine R.sq ?_; refine R.rg ?_; refine R.cm ?_; refine R.nl ?_; refine R.hs (e' := [(0, _), (6, _), (26, _), (27, _), (28, _), (29, _)]) ?_; refine R.sq ?_; refine R.cd (fun zc13 => ?_) (fun zc13 => ?_)
    ·
     have hlt : i < t.r.vs.length := by simp at zc13; omega
     obtain ⟨x, hgx⟩ := get_of_lt hlt
     have hgy : (forgetV t.r.vs v t.r.dest)[i]? = some (forgH t.r.dest v x) := by rw [forgetV, List.getElem?_map, hgx]; rfl
     obtain ⟨b1, o1, hI1, hc1⟩ := hV.at Vw.len hgx
     obtain ⟨b2, o2, hI2, hc2⟩ := hzr2_8.at Vw.len hgy
     have hlen := gone_len (t.r.vs.take i) v t.r.dest
     rw [List.length_take] at hlen
     refine Run.skip ?_; refine R.sq ?_; refine Run.block ?_; refine R.sq ?_; refine R.rg ?_; refine R.mv ?_; refine R.ix (hI1) Tryz.runUnderlying24 Tryz.sizeOf72 ?_; refine R.lAD 7 Tryz.isAgg72 Tryz.sizeOf72 ?_; refine R.alA Tryz.zeroValue72 (fun zb14 hzb14 => ?_); refine R.as ?_; refine R.st Tryz.sizeOf72 ?_; refine R.nl ?_; refine R.hs (e' := [(0, _), (6, _), (7, _), (8, _), (26, _), (27, _), (28, _)]) ?_; refine R.sq ?_; refine Run.drawC Grow.eq 9 [(0, _), (6, _), (7, _), (8, _), (26, _), (27, _), (28, _)] mix (by kernel_rfl) (by repeat (first | exact trivial | refine ⟨rfl, ?_⟩)) ?_; apply TC.val []; exact rfl; kernel_rfl
     ·rintro _  rfl ; refine R.lA 7 Tryz.isAgg72 Tryz.sizeOf72 ?_; refine R.nl ?_; exact Run.loc rfl rfl rfl
     apply TC.val []; exact rfl; kernel_rfl
     ·rintro _  rfl ; refine R.mv ?_; refine R.nl ?_; exact Run.loc rfl rfl rfl
     apply TC.val [0]; exact rfl; kernel_rfl
     ·rintro _  rfl _ rfl
      first | refine R.nc ?_ | refine R.ncf ?_
      refine R.nl ?_; exact Run.loc rfl rfl rfl
     apply TC.val [0]; exact rfl; kernel_rfl
     ·rintro _  rfl _ rfl; refine R.fa Tryz.runUnderlying78 Tryz.sizeOf26 ?_; refine R.nl ?_; exact Run.loc rfl rfl rfl
     apply TC.val [0]; exact rfl; kernel_rfl
     ·rintro _  rfl _ rfl; refine R.fa Tryz.runUnderlying26 Tryz.sizeOf24 ?_; refine R.nl ?_; exact Run.loc rfl rfl rfl
     apply TC.val [0]; exact rfl; kernel_rfl
     ·rintro _  rfl _ rfl; refine R.ld Tryz.isAgg24 ?_; refine R.nl ?_; exact Run.loc rfl rfl rfl
     apply TC.val []; exact rfl; kernel_rfl
     ·rintro _  rfl ; refine R.mv ?_; refine R.nl ?_; exact Run.loc rfl rfl rfl
     apply TC.val [1, 0]; exact rfl; kernel_rfl
     ·rintro _  rfl _ rfl _ rfl; refine R.ix (hI2) Tryz.runUnderlying24 Tryz.sizeOf72 ?_; refine R.nl ?_; exact Run.loc rfl rfl rfl
     apply TC.val [0]; exact rfl; kernel_rfl
     ·rintro _  rfl _ rfl; refine R.lAD 7 Tryz.isAgg72 Tryz.sizeOf72 ?_; refine R.nl ?_; exact Run.loc rfl rfl rfl
     refine TC.fin (by rfl) ?_; rintro _  rfl _ rfl _ rfl _ rfl _ rfl _ rfl _ rfl _ rfl _ rfl _ rfl; refine R.na Tryz.eqGuardType72 (eqAt72 _ _ _ _ _ _ _ _ _ _ _ _ _ _) ?_; refine R.nl ?_; refine R.hs (e' := [(0, _), (6, _), (8, _), (26, _), (27, _), (28, _), (42, _)]) ?_; refine R.cd (fun zc25 => ?_) (fun zc25 => ?_)
     ·
      have hne : x ≠ forgH t.r.dest v x := fun e => by rw [← e] at zc25; simp at zc25
      have hs1 : goneV (t.r.vs.take (i + 1)) v t.r.dest = goneV (t.r.vs.take i) v t.r.dest ++ [x.id] := by rw [gone_succ hgx, if_pos hne]
      refine R.rg ?_; refine R.mv ?_; refine R.fa Tryz.runUnderlying72 Tryz.sizeOf3 ?_; refine R.ld Tryz.isAgg3 ?_; refine R.bs zc3 Tryz.runUnderlying56 Tryz.sizeOf3 Tryz.zeroValue3 (fun zb26 hzb26 => ?_); refine R.ap Tryz.underlying56 info3 (hU) (permQ (a := [_, _, _, _])) (Src.lit (List.mem_append_right _ (.head _)) rfl) (by omega) (ones rfl) ?_; intro v' q' hO'
      have hU2 : IR v' (goneV (t.r.vs.take i) v t.r.dest ++ [x.id]) q' := OL.snoc hO' rfl
      refine R.as ?_; refine R.nl ?_; refine R.hs (e' := [(0, _), (6, _), (26, _), (27, _), (28, _)]) ?_; refine Run.endBlock ?_; refine R.rg ?_; refine R.ad ?_; refine R.mv ?_; refine R.nl ?_; refine R.hs (e' := [(0, _), (6, _), (26, _), (27, _), (28, _)]) ?_
      first | exact Run.again (i + 1, v', q') ⟨by simp <;> omega, by rw [hs1]; exact hU2⟩ (by simp <;> omega) (by refine ⟨rfl, rfl, ?_⟩; repeat (first | exact trivial | refine ⟨rfl, ?_⟩)) (fun w hs => (hs.dropMid (a := [_, _])).perm (permQ (a := [_, _]))) | exact Run.again (i + 1, w, q2) ⟨by simp <;> omega, by rw [hs1]; exact hU⟩ (by simp <;> omega) (by refine ⟨rfl, rfl, ?_⟩; repeat (first | exact trivial | refine ⟨rfl, ?_⟩)) (fun w hs => hs.drop 1)
     ·
      have hne : ¬ x ≠ forgH t.r.dest v x := by rw [ne_eq, Classical.not_not, Vw.ext']; simpa using zc25
      have hs1 : goneV (t.r.vs.take (i + 1)) v t.r.dest = goneV (t.r.vs.take i) v t.r.dest := by rw [gone_succ hgx, if_neg hne, List.append_nil]
      refine Run.skip ?_; refine Run.endBlock ?_; refine R.rg ?_; refine R.ad ?_; refine R.mv ?_; refine R.nl ?_; refine R.hs (e' := [(0, _), (6, _), (26, _), (27, _), (28, _)]) ?_
      first | exact Run.again (i + 1, v', q') ⟨by simp <;> omega, by rw [hs1]; exact hU2⟩ (by simp <;> omega) (by refine ⟨rfl, rfl, ?_⟩; repeat (first | exact trivial | refine ⟨rfl, ?_⟩)) (fun w hs => (hs.dropMid (a := [_, _])).perm (permQ (a := [_, _]))) | exact Run.again (i + 1, w, q2) ⟨by simp <;> omega, by rw [hs1]; exact hU⟩ (by simp <;> omega) (by refine ⟨rfl, rfl, ?_⟩; repeat (first | exact trivial | refine ⟨rfl, ?_⟩)) (fun w hs => hs.drop 1)
    ·
     have hz : t.r.vs.take i = t.r.vs := by simp at zc13; exact List.take_of_length_le (by omega)
     refine Run.exit rfl ?_; refine R.sq ?_; refine R.rg ?_; refine R.mv ?_; refine R.as ?_; refine R.nl ?_; refine R.hs (e' := [(4, _)]) ?_
     rw [hz] at hU
     refine Run.st (fun w hs => hs.perm (permQ (q := q2) (a := [_, _])).symm) ?_; refine R.frO hU (fun D' hle2 hL => ?_); exact R.rk (RV.t .nil) 1 ⟨_ :: q, ⟨hle.trans hle2, hL, _, hzr2_8.mono hle2, rfl⟩, rfl⟩ (hu := rfl)
  · rintro u D' M' ⟨m', ⟨h1, h2, sv', h3, h4⟩, h5⟩
    exact ⟨h1, h2, sv', h3, by rw [h5, h4]; rfl⟩
end Go.Proofs.YtgdpjpmjcpieiaaGreat
