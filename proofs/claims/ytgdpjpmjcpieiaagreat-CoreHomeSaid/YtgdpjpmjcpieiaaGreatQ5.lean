import Derived.Sort.Statements
import Derived.Test.YtgdpjpmjcpieiaaGreatQ4
/- Stable sorting of views, the whole: what is in a row stays in it. No condition. -/
namespace Go.Proofs.YtgdpjpmjcpieiaaGreat
open Go
set_option linter.unusedVariables false
set_option linter.unusedSimpArgs false
set_option maxRecDepth 100000
set_option maxHeartbeats 0
theorem half_u64 {a : Int} (h0 : 0 ≤ a) : a.fdiv (2 ^ (min (1 : Int).toNat IntKind.u64.bits)) = a / 2 := by
  rw [show (min (1 : Int).toNat IntKind.u64.bits) = 1 from rfl, Int.fdiv_eq_ediv_of_nonneg _ (by decide)]; rfl
theorem wrapU {x : Int} (h0 : 0 ≤ x) (h1 : x ≤ 18446744073709551615) : IntKind.u64.wrap x = x := by rw [wrap_u64]; omega
theorem symMerge_spec {g : Gl} {D : Dict} {Z : MList} {v : Value} : ∀ (k : Nat) {q : MList} {xs : List Vw} (a m b : Int) (hk : (b - a).toNat = k) (ha0 : 0 ≤ a) (ham : a < m) (hmb : m < b) (hb : b ≤ xs.length) (hml : xs.length ≤ 1000000) (ho : VR v xs q),
    Spec Tryz.prog g 139 [v, .int .i64 a, .int .i64 m, .int .i64 b, .func (.func 92) #[] #[]] D (q ++ Z) (Kept q Z D v xs) := by
  intro k
  induction k using Nat.strongRecOn with
  | _ k ih =>
  intro q xs a m b hk ha0 ham hmb hb hml ho
  refine Spec.enter Tryz.func139 rfl Tryz.ntmps139 rfl ?_; refine R.sq ?_; refine R.sq ?_; refine R.rg ?_; refine R.mv ?_; refine R.mv ?_; refine R.sb ?_; refine R.cm ?_; refine R.nl ?_; refine R.hs (e' := [(0, _), (1, _), (2, _), (3, _), (4, _), (28, _)]) ?_; refine R.cd (fun zc1 => ?_) (fun zc1 => ?_)
  ·
   have hma : m - a = 1 := by simpa using zc1
   refine R.sq ?_; refine R.rg ?_; refine R.mv ?_; refine R.as ?_; refine R.nl ?_; refine R.hs (e' := [(0, _), (1, _), (3, _), (4, _), (10, _)]) ?_; refine R.sq ?_; refine R.rg ?_; refine R.mv ?_; refine R.as ?_; refine R.nl ?_; refine R.hs (e' := [(0, _), (1, _), (4, _), (10, _), (11, _)]) ?_; refine R.sq ?_; refine Run.block ?_; refine Run.loop (ι := Int × Int) [(0, _), (1, _), (4, _)] (fun p => [(10, .int .i64 p.1), (11, .int .i64 p.2)]) (fun _ => D) (fun _ => q ++ Z) (fun p => m ≤ p.1 ∧ p.1 ≤ p.2 ∧ p.2 ≤ b) (fun p => (p.2 - p.1).toNat) ((m, b)) (by repeat (first | exact trivial | refine ⟨rfl, ?_⟩)) ?h0 (by repeat (first | exact trivial | refine ⟨rfl, ?_⟩)) (fun w hs => hs) ?_
   case h0 => exact ⟨by simp, by simp <;> omega, by simp⟩
   rintro ⟨i, j⟩ ⟨hi, hij, hj⟩
   simp only at hi hij hj
   refine R.sq ?_; refine R.sq ?_; refine R.rg ?_; refine R.mv ?_; refine R.mv ?_; refine R.cm ?_; refine R.nl ?_; refine R.hs (e' := [(0, _), (1, _), (4, _), (10, _), (11, _), (33, _)]) ?_; refine R.cd (fun zc2 => ?_) (fun zc2 => ?_)
   ·
    have hlt : i < j := by simpa using zc2
    obtain ⟨x, hgx⟩ := get_of_lt (xs := xs) (i := ((i + j) / 2).toNat) (by omega)
    obtain ⟨y, hgy⟩ := get_of_lt (xs := xs) (i := a.toNat) (by omega)
    obtain ⟨b1, o1, hI1, hc1⟩ := ho.ix (D := D) (Z := Z) hgx
    obtain ⟨b2, o2, hI2, hc2⟩ := ho.ix (D := D) (Z := Z) hgy
    refine Run.skip ?_; refine Run.block ?_; refine R.sq ?_; refine R.rg ?_; refine R.mv ?_; refine R.mv ?_; refine R.ad ?_; refine R.cv Tryz.runUnderlying3 Tryz.runUnderlying97 (wrapU (show 0 ≤ i + j by omega) (show i + j ≤ 18446744073709551615 by omega)) ?_; refine R.sr (half_u64 (show 0 ≤ i + j by omega)) ?_; refine R.cv Tryz.runUnderlying97 Tryz.runUnderlying3 (wrap_i64 (show -9223372036854775808 ≤ (i + j) / 2 by omega) (show (i + j) / 2 ≤ 9223372036854775807 by omega)) ?_; refine R.as ?_; refine R.nl ?_; refine R.hs (e' := [(0, _), (1, _), (4, _), (10, _), (11, _), (12, _)]) ?_; refine R.sq ?_; refine Run.drawC Grow.eq 9 [(0, _), (1, _), (4, _), (10, _), (11, _), (12, _)] mix (by kernel_rfl) (by repeat (first | exact trivial | refine ⟨rfl, ?_⟩)) ?_; apply TC.val []; exact rfl; kernel_rfl
    ·rintro _ rfl ; refine R.mv ?_; refine R.nl ?_; exact Run.loc rfl rfl rfl
    apply TC.val []; exact rfl; kernel_rfl
    ·rintro _ rfl ; refine R.mv ?_; refine R.nl ?_; exact Run.loc rfl rfl rfl
    apply TC.val []; exact rfl; kernel_rfl
    ·rintro _ rfl ; refine R.mv ?_; refine R.nl ?_; exact Run.loc rfl rfl rfl
    apply TC.val [1, 0]; exact rfl; kernel_rfl
    ·rintro _ rfl _ rfl _ rfl; refine R.ix (hI1) Tryz.runUnderlying99 Tryz.sizeOf101 ?_; refine R.nl ?_; exact Run.loc rfl rfl rfl
    apply TC.val [0]; exact rfl; kernel_rfl
    ·rintro _ rfl _ rfl; refine R.lAD 7 Tryz.isAgg101 Tryz.sizeOf101 ?_; refine R.nl ?_; exact Run.loc rfl rfl rfl
    apply TC.val []; exact rfl; kernel_rfl
    ·rintro _ rfl ; refine R.mv ?_; refine R.nl ?_; exact Run.loc rfl rfl rfl
    apply TC.val []; exact rfl; kernel_rfl
    ·rintro _ rfl ; refine R.mv ?_; refine R.nl ?_; exact Run.loc rfl rfl rfl
    apply TC.val [1, 0]; exact rfl; kernel_rfl
    ·rintro _ rfl _ rfl _ rfl; refine R.ix (hI2) Tryz.runUnderlying99 Tryz.sizeOf101 ?_; refine R.nl ?_; exact Run.loc rfl rfl rfl
    apply TC.val [0]; exact rfl; kernel_rfl
    ·rintro _ rfl _ rfl; refine R.lAD 7 Tryz.isAgg101 Tryz.sizeOf101 ?_; refine R.nl ?_; exact Run.loc rfl rfl rfl
    refine TC.fin (by rfl) ?_; rintro _ rfl _ rfl _ rfl _ rfl _ rfl _ rfl _ rfl _ rfl _ rfl _ rfl; refine R.cy (Tryz.call92) (cmpV_spec x y) ?_; refine R.cm ?_; refine R.nl ?_; refine R.hs (e' := [(0, _), (1, _), (4, _), (10, _), (11, _), (12, _), (50, _)]) ?_; refine R.cd (fun zc13 => ?_) (fun zc13 => ?_)
    ·refine R.rg ?_; refine R.mv ?_; refine R.ad ?_; refine R.as ?_; refine R.nl ?_; refine R.hs (e' := [(0, _), (1, _), (4, _), (10, _), (11, _)]) ?_; refine Run.endBlock ?_
     first | exact Run.again ((i + j) / 2 + 1, j) ⟨by simp <;> omega, by simp <;> omega, by simp <;> omega⟩ (by simp <;> omega) (by refine ⟨rfl, rfl, ?_⟩; repeat (first | exact trivial | refine ⟨rfl, ?_⟩)) (fun w hs => hs) | exact Run.again (i, (i + j) / 2) ⟨by simp <;> omega, by simp <;> omega, by simp <;> omega⟩ (by simp <;> omega) (by refine ⟨rfl, rfl, ?_⟩; repeat (first | exact trivial | refine ⟨rfl, ?_⟩)) (fun w hs => hs)
    ·refine R.rg ?_; refine R.mv ?_; refine R.as ?_; refine R.nl ?_; refine R.hs (e' := [(0, _), (1, _), (4, _), (10, _), (11, _)]) ?_; refine Run.endBlock ?_
     first | exact Run.again ((i + j) / 2 + 1, j) ⟨by simp <;> omega, by simp <;> omega, by simp <;> omega⟩ (by simp <;> omega) (by refine ⟨rfl, rfl, ?_⟩; repeat (first | exact trivial | refine ⟨rfl, ?_⟩)) (fun w hs => hs) | exact Run.again (i, (i + j) / 2) ⟨by simp <;> omega, by simp <;> omega, by simp <;> omega⟩ (by simp <;> omega) (by refine ⟨rfl, rfl, ?_⟩; repeat (first | exact trivial | refine ⟨rfl, ?_⟩)) (fun w hs => hs)
   ·refine Run.exit rfl ?_; refine R.sq ?_; refine R.sq ?_; refine R.rg ?_; refine R.mv ?_; refine R.as ?_; refine R.nl ?_; refine R.hs (e' := [(0, _), (10, _), (13, _)]) ?_; refine Run.block ?_; refine Run.loop (ι := Int × List Vw × MList) [(0, _), (10, _)] (fun p => [(13, .int .i64 p.1)]) (fun _ => D) (fun p => p.2.2 ++ Z) (fun p => a ≤ p.1 ∧ p.2.1.Perm xs ∧ VR v p.2.1 p.2.2) (fun p => (i - 1 - p.1).toNat) ((a, xs, q)) (by repeat (first | exact trivial | refine ⟨rfl, ?_⟩)) ?h0 (by repeat (first | exact trivial | refine ⟨rfl, ?_⟩)) (fun w hs => hs) ?_
    case h0 => exact ⟨by simp, List.Perm.refl _, ho⟩
    rintro ⟨c, ws, q1⟩ ⟨hac, hpw, hOw⟩
    simp only at hac hpw hOw
    have hwl := hpw.length_eq
    refine R.sq ?_; refine R.sq ?_; refine R.rg ?_; refine R.mv ?_; refine R.mv ?_; refine R.sb ?_; refine R.cm ?_; refine R.nl ?_; refine R.hs (e' := [(0, _), (10, _), (13, _), (58, _)]) ?_; refine R.cd (fun zc14 => ?_) (fun zc14 => ?_)
    ·
     have hlt : c < i - 1 := by simpa using zc14
     obtain ⟨x, hgx⟩ := get_of_lt (xs := ws) (i := c.toNat) (by omega)
     obtain ⟨y, hgy⟩ := get_of_lt (xs := ws) (i := (c + 1).toNat) (by omega)
     obtain ⟨b1, o1, hI1, hc1⟩ := hOw.ix (D := D) (Z := Z) hgx
     obtain ⟨b2, o2, hI2, hc2⟩ := hOw.ix (D := D) (Z := Z) hgy
     refine Run.skip ?_; refine R.sq ?_; refine Run.block ?_; refine Run.drawX Grow.eq 16 15 (fun M' => ∃ q2, VR v (ws.set c.toNat y) q2 ∧ M' = q2 ++ Z) [(0, _), (10, _), (13, _)] mix (by kernel_rfl) (by repeat (first | exact trivial | refine ⟨rfl, ?_⟩)) ?_; apply TX.val []; exact rfl; kernel_rfl
     ·rintro _ rfl ; refine R.mv ?_; refine R.nl ?_; exact Run.loc rfl rfl rfl
     apply TX.val []; exact rfl; kernel_rfl
     ·rintro _ rfl ; refine R.mv ?_; refine R.nl ?_; exact Run.loc rfl rfl rfl
     apply TX.late []; exact rfl; kernel_rfl
     ·intro zM hzM; rintro _ rfl ; refine R.mv ?_; refine R.nl ?_; exact Run.loc rfl rfl rfl
     apply TX.late []; exact rfl; kernel_rfl
     ·intro zM hzM; rintro _ rfl ; refine R.mv ?_; refine R.nl ?_; exact Run.loc rfl rfl rfl
     apply TX.late [0]; exact rfl; kernel_rfl
     ·intro zM hzM; rintro _ rfl _ rfl; refine R.ad ?_; refine R.nl ?_; exact Run.loc rfl rfl rfl
     apply TX.val []; exact rfl; kernel_rfl
     ·rintro _ rfl ; refine R.mv ?_; refine R.nl ?_; exact Run.loc rfl rfl rfl
     apply TX.val []; exact rfl; kernel_rfl
     ·rintro _ rfl ; refine R.mv ?_; refine R.nl ?_; exact Run.loc rfl rfl rfl
     apply TX.val [0]; exact rfl; kernel_rfl
     ·rintro _ rfl _ rfl; refine R.ad ?_; refine R.nl ?_; exact Run.loc rfl rfl rfl
     apply TX.val [2, 0]; exact rfl; kernel_rfl
     ·rintro _ rfl _ rfl _ rfl; refine R.ix (hI2) Tryz.runUnderlying99 Tryz.sizeOf101 ?_; refine R.nl ?_; exact Run.loc rfl rfl rfl
     apply TX.val [0]; exact rfl; kernel_rfl
     ·rintro _ rfl _ rfl; refine R.lAD 7 Tryz.isAgg101 Tryz.sizeOf101 ?_; refine R.nl ?_; exact Run.loc rfl rfl rfl
     apply TX.val []; exact rfl; kernel_rfl
     ·rintro _ rfl ; refine R.mv ?_; refine R.nl ?_; exact Run.loc rfl rfl rfl
     apply TX.val []; exact rfl; kernel_rfl
     ·rintro _ rfl ; refine R.mv ?_; refine R.nl ?_; exact Run.loc rfl rfl rfl
     apply TX.val [1, 0]; exact rfl; kernel_rfl
     ·rintro _ rfl _ rfl _ rfl; refine R.ix (hI1) Tryz.runUnderlying99 Tryz.sizeOf101 ?_; refine R.nl ?_; exact Run.loc rfl rfl rfl
     apply TX.val [0]; exact rfl; kernel_rfl
     ·rintro _ rfl _ rfl; refine R.lAD 7 Tryz.isAgg101 Tryz.sizeOf101 ?_; refine R.nl ?_; exact Run.loc rfl rfl rfl
     apply TX.val [13, 12]; exact rfl; kernel_rfl
     ·rintro _ rfl _ rfl _ rfl; refine R.ix (hI1) Tryz.runUnderlying99 Tryz.sizeOf101 ?_; refine R.nl ?_; exact Run.loc rfl rfl rfl
     apply TX.eff [5, 0]; exact rfl; kernel_rfl
     ·rintro _ rfl _ rfl _ rfl; refine R.so y hOw hI1 Vw.len Tryz.sizeOf101 (fun q2 hO2 => ?_); refine R.nl ?_; exact Run.effd rfl (⟨q2, hO2, rfl⟩)
     refine TX.fin (by rfl) ?_; rintro zM ⟨q2, hO2, rfl⟩; rintro _ rfl  _ rfl _ rfl _ rfl _ rfl _ rfl _ rfl _ rfl _ rfl _ rfl _ rfl _ rfl _ rfl _ rfl _ rfl _ rfl; refine R.ix (hI2) Tryz.runUnderlying99 Tryz.sizeOf101 ?_; refine R.so x hO2 hI2 Vw.len Tryz.sizeOf101 (fun q3 hO3 => ?_); refine R.nl ?_; refine R.hs (e' := [(0, _), (10, _), (13, _)]) ?_; refine Run.endBlock ?_; refine R.rg ?_; refine R.mv ?_; refine R.ad ?_; refine R.as ?_; refine R.nl ?_; refine R.hs (e' := [(0, _), (10, _), (13, _)]) ?_; exact Run.again (c + 1, _, q3) ⟨by simp <;> omega, (swap_perm hgx hgy).trans hpw, hO3⟩ (by simp <;> omega) (by repeat (first | exact trivial | refine ⟨rfl, ?_⟩)) (fun w hs => hs)
    ·refine Run.exit rfl ?_
     first
       | exact R.rk (u := .tuple #[]) .nil 0 ⟨rfl, ws, q1, hOw, hpw, rfl⟩
       | exact R.fn (u := .tuple #[]) .nil 0 ⟨rfl, _, _, hOc, hpx, rfl⟩
  ·
   have hma : m - a ≠ 1 := by simpa using zc1
   refine Run.skip ?_; refine R.sq ?_; refine R.sq ?_; refine R.rg ?_; refine R.mv ?_; refine R.mv ?_; refine R.sb ?_; refine R.cm ?_; refine R.nl ?_; refine R.hs (e' := [(0, _), (1, _), (2, _), (3, _), (4, _), (80, _)]) ?_; refine R.cd (fun zc32 => ?_) (fun zc32 => ?_)
   ·
    have hbm : b - m = 1 := by simpa using zc32
    refine R.sq ?_; refine R.rg ?_; refine R.mv ?_; refine R.as ?_; refine R.nl ?_; refine R.hs (e' := [(0, _), (2, _), (4, _), (14, _)]) ?_; refine R.sq ?_; refine R.rg ?_; refine R.mv ?_; refine R.as ?_; refine R.nl ?_; refine R.hs (e' := [(0, _), (2, _), (4, _), (14, _), (15, _)]) ?_; refine R.sq ?_; refine Run.block ?_; refine Run.loop (ι := Int × Int) [(0, _), (2, _), (4, _)] (fun p => [(14, .int .i64 p.1), (15, .int .i64 p.2)]) (fun _ => D) (fun _ => q ++ Z) (fun p => a ≤ p.1 ∧ p.1 ≤ p.2 ∧ p.2 ≤ m) (fun p => (p.2 - p.1).toNat) ((a, m)) (by repeat (first | exact trivial | refine ⟨rfl, ?_⟩)) ?h0 (by repeat (first | exact trivial | refine ⟨rfl, ?_⟩)) (fun w hs => hs) ?_
    case h0 => exact ⟨by simp, by simp <;> omega, by simp⟩
    rintro ⟨i, j⟩ ⟨hi, hij, hj⟩
    simp only at hi hij hj
    refine R.sq ?_; refine R.sq ?_; refine R.rg ?_; refine R.mv ?_; refine R.mv ?_; refine R.cm ?_; refine R.nl ?_; refine R.hs (e' := [(0, _), (2, _), (4, _), (14, _), (15, _), (85, _)]) ?_; refine R.cd (fun zc33 => ?_) (fun zc33 => ?_)
    ·
     have hlt : i < j := by simpa using zc33
     obtain ⟨x, hgx⟩ := get_of_lt (xs := xs) (i := m.toNat) (by omega)
     obtain ⟨y, hgy⟩ := get_of_lt (xs := xs) (i := ((i + j) / 2).toNat) (by omega)
     obtain ⟨b1, o1, hI1, hc1⟩ := ho.ix (D := D) (Z := Z) hgx
     obtain ⟨b2, o2, hI2, hc2⟩ := ho.ix (D := D) (Z := Z) hgy
     refine Run.skip ?_; refine Run.block ?_; refine R.sq ?_; refine R.rg ?_; refine R.mv ?_; refine R.mv ?_; refine R.ad ?_; refine R.cv Tryz.runUnderlying3 Tryz.runUnderlying97 (wrapU (show 0 ≤ i + j by omega) (show i + j ≤ 18446744073709551615 by omega)) ?_; refine R.sr (half_u64 (show 0 ≤ i + j by omega)) ?_; refine R.cv Tryz.runUnderlying97 Tryz.runUnderlying3 (wrap_i64 (show -9223372036854775808 ≤ (i + j) / 2 by omega) (show (i + j) / 2 ≤ 9223372036854775807 by omega)) ?_; refine R.as ?_; refine R.nl ?_; refine R.hs (e' := [(0, _), (2, _), (4, _), (14, _), (15, _), (16, _)]) ?_; refine R.sq ?_; refine Run.drawC Grow.eq 9 [(0, _), (2, _), (4, _), (14, _), (15, _), (16, _)] mix (by kernel_rfl) (by repeat (first | exact trivial | refine ⟨rfl, ?_⟩)) ?_; apply TC.val []; exact rfl; kernel_rfl
     ·rintro _ rfl ; refine R.mv ?_; refine R.nl ?_; exact Run.loc rfl rfl rfl
     apply TC.val []; exact rfl; kernel_rfl
     ·rintro _ rfl ; refine R.mv ?_; refine R.nl ?_; exact Run.loc rfl rfl rfl
     apply TC.val []; exact rfl; kernel_rfl
     ·rintro _ rfl ; refine R.mv ?_; refine R.nl ?_; exact Run.loc rfl rfl rfl
     apply TC.val [1, 0]; exact rfl; kernel_rfl
     ·rintro _ rfl _ rfl _ rfl; refine R.ix (hI1) Tryz.runUnderlying99 Tryz.sizeOf101 ?_; refine R.nl ?_; exact Run.loc rfl rfl rfl
     apply TC.val [0]; exact rfl; kernel_rfl
     ·rintro _ rfl _ rfl; refine R.lAD 7 Tryz.isAgg101 Tryz.sizeOf101 ?_; refine R.nl ?_; exact Run.loc rfl rfl rfl
     apply TC.val []; exact rfl; kernel_rfl
     ·rintro _ rfl ; refine R.mv ?_; refine R.nl ?_; exact Run.loc rfl rfl rfl
     apply TC.val []; exact rfl; kernel_rfl
     ·rintro _ rfl ; refine R.mv ?_; refine R.nl ?_; exact Run.loc rfl rfl rfl
     apply TC.val [1, 0]; exact rfl; kernel_rfl
     ·rintro _ rfl _ rfl _ rfl; refine R.ix (hI2) Tryz.runUnderlying99 Tryz.sizeOf101 ?_; refine R.nl ?_; exact Run.loc rfl rfl rfl
     apply TC.val [0]; exact rfl; kernel_rfl
     ·rintro _ rfl _ rfl; refine R.lAD 7 Tryz.isAgg101 Tryz.sizeOf101 ?_; refine R.nl ?_; exact Run.loc rfl rfl rfl
     refine TC.fin (by rfl) ?_; rintro _ rfl _ rfl _ rfl _ rfl _ rfl _ rfl _ rfl _ rfl _ rfl _ rfl; refine R.cy (Tryz.call92) (cmpV_spec x y) ?_; refine R.cm ?_; refine R.nt ?_; refine R.nl ?_; refine R.hs (e' := [(0, _), (2, _), (4, _), (14, _), (15, _), (16, _), (103, _)]) ?_; refine R.cd (fun zc44 => ?_) (fun zc44 => ?_)
     ·refine R.rg ?_; refine R.mv ?_; refine R.ad ?_; refine R.as ?_; refine R.nl ?_; refine R.hs (e' := [(0, _), (2, _), (4, _), (14, _), (15, _)]) ?_; refine Run.endBlock ?_
      first | exact Run.again ((i + j) / 2 + 1, j) ⟨by simp <;> omega, by simp <;> omega, by simp <;> omega⟩ (by simp <;> omega) (by refine ⟨rfl, rfl, ?_⟩; repeat (first | exact trivial | refine ⟨rfl, ?_⟩)) (fun w hs => hs) | exact Run.again (i, (i + j) / 2) ⟨by simp <;> omega, by simp <;> omega, by simp <;> omega⟩ (by simp <;> omega) (by refine ⟨rfl, rfl, ?_⟩; repeat (first | exact trivial | refine ⟨rfl, ?_⟩)) (fun w hs => hs)
     ·refine R.rg ?_; refine R.mv ?_; refine R.as ?_; refine R.nl ?_; refine R.hs (e' := [(0, _), (2, _), (4, _), (14, _), (15, _)]) ?_; refine Run.endBlock ?_
      first | exact Run.again ((i + j) / 2 + 1, j) ⟨by simp <;> omega, by simp <;> omega, by simp <;> omega⟩ (by simp <;> omega) (by refine ⟨rfl, rfl, ?_⟩; repeat (first | exact trivial | refine ⟨rfl, ?_⟩)) (fun w hs => hs) | exact Run.again (i, (i + j) / 2) ⟨by simp <;> omega, by simp <;> omega, by simp <;> omega⟩ (by simp <;> omega) (by refine ⟨rfl, rfl, ?_⟩; repeat (first | exact trivial | refine ⟨rfl, ?_⟩)) (fun w hs => hs)
    ·refine Run.exit rfl ?_; refine R.sq ?_; refine R.sq ?_; refine R.rg ?_; refine R.mv ?_; refine R.as ?_; refine R.nl ?_; refine R.hs (e' := [(0, _), (14, _), (17, _)]) ?_; refine Run.block ?_; refine Run.loop (ι := Int × List Vw × MList) [(0, _), (14, _)] (fun p => [(17, .int .i64 p.1)]) (fun _ => D) (fun p => p.2.2 ++ Z) (fun p => p.1 ≤ m ∧ p.2.1.Perm xs ∧ VR v p.2.1 p.2.2) (fun p => (p.1 - i).toNat) ((m, xs, q)) (by repeat (first | exact trivial | refine ⟨rfl, ?_⟩)) ?h0 (by repeat (first | exact trivial | refine ⟨rfl, ?_⟩)) (fun w hs => hs) ?_
     case h0 => exact ⟨by simp, List.Perm.refl _, ho⟩
     rintro ⟨c, ws, q1⟩ ⟨hac, hpw, hOw⟩
     simp only at hac hpw hOw
     have hwl := hpw.length_eq
     refine R.sq ?_; refine R.sq ?_; refine R.rg ?_; refine R.mv ?_; refine R.mv ?_; refine R.cm ?_; refine R.nl ?_; refine R.hs (e' := [(0, _), (14, _), (17, _), (110, _)]) ?_; refine R.cd (fun zc45 => ?_) (fun zc45 => ?_)
     ·
      have hlt : c > i := by simpa using zc45
      obtain ⟨x, hgx⟩ := get_of_lt (xs := ws) (i := c.toNat) (by omega)
      obtain ⟨y, hgy⟩ := get_of_lt (xs := ws) (i := (c - 1).toNat) (by omega)
      obtain ⟨b1, o1, hI1, hc1⟩ := hOw.ix (D := D) (Z := Z) hgx
      obtain ⟨b2, o2, hI2, hc2⟩ := hOw.ix (D := D) (Z := Z) hgy
      refine Run.skip ?_; refine R.sq ?_; refine Run.block ?_; refine Run.drawX Grow.eq 16 15 (fun M' => ∃ q2, VR v (ws.set c.toNat y) q2 ∧ M' = q2 ++ Z) [(0, _), (14, _), (17, _)] mix (by kernel_rfl) (by repeat (first | exact trivial | refine ⟨rfl, ?_⟩)) ?_; apply TX.val []; exact rfl; kernel_rfl
      ·rintro _ rfl ; refine R.mv ?_; refine R.nl ?_; exact Run.loc rfl rfl rfl
      apply TX.val []; exact rfl; kernel_rfl
      ·rintro _ rfl ; refine R.mv ?_; refine R.nl ?_; exact Run.loc rfl rfl rfl
      apply TX.late []; exact rfl; kernel_rfl
      ·intro zM hzM; rintro _ rfl ; refine R.mv ?_; refine R.nl ?_; exact Run.loc rfl rfl rfl
      apply TX.late []; exact rfl; kernel_rfl
      ·intro zM hzM; rintro _ rfl ; refine R.mv ?_; refine R.nl ?_; exact Run.loc rfl rfl rfl
      apply TX.late [0]; exact rfl; kernel_rfl
      ·intro zM hzM; rintro _ rfl _ rfl; refine R.sb ?_; refine R.nl ?_; exact Run.loc rfl rfl rfl
      apply TX.val []; exact rfl; kernel_rfl
      ·rintro _ rfl ; refine R.mv ?_; refine R.nl ?_; exact Run.loc rfl rfl rfl
      apply TX.val []; exact rfl; kernel_rfl
      ·rintro _ rfl ; refine R.mv ?_; refine R.nl ?_; exact Run.loc rfl rfl rfl
      apply TX.val [0]; exact rfl; kernel_rfl
      ·rintro _ rfl _ rfl; refine R.sb ?_; refine R.nl ?_; exact Run.loc rfl rfl rfl
      apply TX.val [2, 0]; exact rfl; kernel_rfl
      ·rintro _ rfl _ rfl _ rfl; refine R.ix (hI2) Tryz.runUnderlying99 Tryz.sizeOf101 ?_; refine R.nl ?_; exact Run.loc rfl rfl rfl
      apply TX.val [0]; exact rfl; kernel_rfl
      ·rintro _ rfl _ rfl; refine R.lAD 7 Tryz.isAgg101 Tryz.sizeOf101 ?_; refine R.nl ?_; exact Run.loc rfl rfl rfl
      apply TX.val []; exact rfl; kernel_rfl
      ·rintro _ rfl ; refine R.mv ?_; refine R.nl ?_; exact Run.loc rfl rfl rfl
      apply TX.val []; exact rfl; kernel_rfl
      ·rintro _ rfl ; refine R.mv ?_; refine R.nl ?_; exact Run.loc rfl rfl rfl
      apply TX.val [1, 0]; exact rfl; kernel_rfl
      ·rintro _ rfl _ rfl _ rfl; refine R.ix (hI1) Tryz.runUnderlying99 Tryz.sizeOf101 ?_; refine R.nl ?_; exact Run.loc rfl rfl rfl
      apply TX.val [0]; exact rfl; kernel_rfl
      ·rintro _ rfl _ rfl; refine R.lAD 7 Tryz.isAgg101 Tryz.sizeOf101 ?_; refine R.nl ?_; exact Run.loc rfl rfl rfl
      apply TX.val [13, 12]; exact rfl; kernel_rfl
      ·rintro _ rfl _ rfl _ rfl; refine R.ix (hI1) Tryz.runUnderlying99 Tryz.sizeOf101 ?_; refine R.nl ?_; exact Run.loc rfl rfl rfl
      apply TX.eff [5, 0]; exact rfl; kernel_rfl
      ·rintro _ rfl _ rfl _ rfl; refine R.so y hOw hI1 Vw.len Tryz.sizeOf101 (fun q2 hO2 => ?_); refine R.nl ?_; exact Run.effd rfl (⟨q2, hO2, rfl⟩)
      refine TX.fin (by rfl) ?_; rintro zM ⟨q2, hO2, rfl⟩; rintro _ rfl  _ rfl _ rfl _ rfl _ rfl _ rfl _ rfl _ rfl _ rfl _ rfl _ rfl _ rfl _ rfl _ rfl _ rfl _ rfl; refine R.ix (hI2) Tryz.runUnderlying99 Tryz.sizeOf101 ?_; refine R.so x hO2 hI2 Vw.len Tryz.sizeOf101 (fun q3 hO3 => ?_); refine R.nl ?_; refine R.hs (e' := [(0, _), (14, _), (17, _)]) ?_; refine Run.endBlock ?_; refine R.rg ?_; refine R.mv ?_; refine R.sb ?_; refine R.as ?_; refine R.nl ?_; refine R.hs (e' := [(0, _), (14, _), (17, _)]) ?_; exact Run.again (c - 1, _, q3) ⟨by simp <;> omega, (swap_perm hgx hgy).trans hpw, hO3⟩ (by simp <;> omega) (by repeat (first | exact trivial | refine ⟨rfl, ?_⟩)) (fun w hs => hs)
     ·refine Run.exit rfl ?_
      first
        | exact R.rk (u := .tuple #[]) .nil 0 ⟨rfl, ws, q1, hOw, hpw, rfl⟩
        | exact R.fn (u := .tuple #[]) .nil 0 ⟨rfl, _, _, hOc, hpx, rfl⟩
   ·
    have hbm : b - m ≠ 1 := by simpa using zc32
    refine Run.skip ?_; refine R.sq ?_
    obtain ⟨mid, hmid⟩ : ∃ mid, (a + b) / 2 = mid := ⟨_, rfl⟩
    refine R.rg ?_; refine R.mv ?_; refine R.mv ?_; refine R.ad ?_; refine R.cv Tryz.runUnderlying3 Tryz.runUnderlying97 (wrapU (show 0 ≤ a + b by omega) (show a + b ≤ 18446744073709551615 by omega)) ?_; refine R.sr ((half_u64 (show 0 ≤ a + b by omega)).trans hmid) ?_; refine R.cv Tryz.runUnderlying97 Tryz.runUnderlying3 (wrap_i64 (show -9223372036854775808 ≤ mid by omega) (show mid ≤ 9223372036854775807 by omega)) ?_; refine R.as ?_; refine R.nl ?_; refine R.hs (e' := [(0, _), (1, _), (2, _), (3, _), (4, _), (18, _)]) ?_; refine R.sq ?_; refine R.rg ?_; refine R.mv ?_; refine R.mv ?_; refine R.ad ?_; refine R.as ?_; refine R.nl ?_; refine R.hs (e' := [(0, _), (1, _), (2, _), (3, _), (4, _), (18, _), (19, _)]) ?_; refine R.sq ?_; refine R.rg ?_; refine R.as ?_; refine R.as ?_; refine R.nl ?_; refine R.hs (e' := [(0, _), (1, _), (2, _), (3, _), (4, _), (18, _), (19, _)]) ?_; refine R.sq ?_
    refine R.sq ?_; refine R.rg ?_; refine R.mv ?_; refine R.mv ?_; refine R.cm ?_; refine R.nl ?_; refine R.hs (e' := [(0, _), (1, _), (2, _), (3, _), (4, _), (18, _), (19, _), (140, _)]) ?_; refine R.cd (fun zc63 => ?_) (fun zc63 => ?_)
    ·
     have hmm : m > mid := by simpa using zc63
     refine R.sq ?_; refine R.rg ?_; refine R.mv ?_; refine R.mv ?_; refine R.sb ?_; refine R.as ?_; refine R.nl ?_; refine R.hs (e' := [(0, _), (1, _), (2, _), (3, _), (4, _), (18, _), (19, _), (20, _)]) ?_; refine R.rg ?_; refine R.mv ?_; refine R.as ?_; refine R.nl ?_; refine R.hs (e' := [(0, _), (1, _), (2, _), (3, _), (4, _), (18, _), (19, _), (20, _), (21, _)]) ?_; refine R.sq ?_; refine R.rg ?_; refine R.mv ?_; refine R.sb ?_; refine R.as ?_; refine R.nl ?_; refine R.hs (e' := [(0, _), (1, _), (2, _), (3, _), (4, _), (18, _), (19, _), (20, _), (21, _), (22, _)]) ?_; refine R.sq ?_; refine Run.block ?_
     refine Run.loop (ι := Int × Int) [(0, _), (1, _), (2, _), (3, _), (4, _), (18, _), (19, _), (22, _)] (fun p => [(20, .int .i64 p.1), (21, .int .i64 p.2)]) (fun _ => D) (fun _ => q ++ Z) (fun p => a ≤ p.1 ∧ p.1 ≤ p.2 ∧ p.2 ≤ b ∧ mid + m - p.1 ≤ b ∧ a ≤ mid + m - p.2) (fun p => (p.2 - p.1).toNat) ((by first | exact (fun _ : m > mid => (mid + m - b, mid)) hmm | exact (a, m))) (by repeat (first | exact trivial | refine ⟨rfl, ?_⟩)) ?h0 (by repeat (first | exact trivial | refine ⟨rfl, ?_⟩)) (fun w hs => hs) ?_
     case h0 => exact ⟨by simp <;> omega, by simp <;> omega, by simp <;> omega, by simp <;> omega, by simp <;> omega⟩
     rintro ⟨s, r⟩ ⟨hs0, hsr, hr0, hs1, hr1⟩
     simp only at hs0 hsr hr0 hs1 hr1
     refine R.sq ?_; refine R.sq ?_; refine R.rg ?_; refine R.mv ?_; refine R.mv ?_; refine R.cm ?_; refine R.nl ?_; refine R.hs (e' := [(0, _), (1, _), (2, _), (3, _), (4, _), (18, _), (19, _), (20, _), (21, _), (22, _), (151, _)]) ?_; refine R.cd (fun zc64 => ?_) (fun zc64 => ?_)
     ·
      have hlt : s < r := by simpa using zc64
      obtain ⟨x, hgx⟩ := get_of_lt (xs := xs) (i := (mid + m - 1 - (s + r) / 2).toNat) (by omega)
      obtain ⟨y, hgy⟩ := get_of_lt (xs := xs) (i := ((s + r) / 2).toNat) (by omega)
      obtain ⟨b1, o1, hI1, hc1⟩ := ho.ix (D := D) (Z := Z) hgx
      obtain ⟨b2, o2, hI2, hc2⟩ := ho.ix (D := D) (Z := Z) hgy
      refine Run.skip ?_; refine Run.block ?_; refine R.sq ?_; refine R.rg ?_; refine R.mv ?_; refine R.mv ?_; refine R.ad ?_; refine R.cv Tryz.runUnderlying3 Tryz.runUnderlying97 (wrapU (show 0 ≤ s + r by omega) (show s + r ≤ 18446744073709551615 by omega)) ?_; refine R.sr (half_u64 (show 0 ≤ s + r by omega)) ?_; refine R.cv Tryz.runUnderlying97 Tryz.runUnderlying3 (wrap_i64 (show -9223372036854775808 ≤ (s + r) / 2 by omega) (show (s + r) / 2 ≤ 9223372036854775807 by omega)) ?_; refine R.as ?_; refine R.nl ?_; refine R.hs (e' := [(0, _), (1, _), (2, _), (3, _), (4, _), (18, _), (19, _), (20, _), (21, _), (22, _), (23, _)]) ?_; refine R.sq ?_; refine Run.drawC Grow.eq 11 [(0, _), (1, _), (2, _), (3, _), (4, _), (18, _), (19, _), (20, _), (21, _), (22, _), (23, _)] mix (by kernel_rfl) (by repeat (first | exact trivial | refine ⟨rfl, ?_⟩)) ?_; apply TC.val []; exact rfl; kernel_rfl
      ·rintro _ rfl ; refine R.mv ?_; refine R.nl ?_; exact Run.loc rfl rfl rfl
      apply TC.val []; exact rfl; kernel_rfl
      ·rintro _ rfl ; refine R.mv ?_; refine R.nl ?_; exact Run.loc rfl rfl rfl
      apply TC.val []; exact rfl; kernel_rfl
      ·rintro _ rfl ; refine R.mv ?_; refine R.nl ?_; exact Run.loc rfl rfl rfl
      apply TC.val []; exact rfl; kernel_rfl
      ·rintro _ rfl ; refine R.mv ?_; refine R.nl ?_; exact Run.loc rfl rfl rfl
      apply TC.val [1, 0]; exact rfl; kernel_rfl
      ·rintro _ rfl _ rfl _ rfl; refine R.sb ?_; refine R.nl ?_; exact Run.loc rfl rfl rfl
      apply TC.val [3, 0]; exact rfl; kernel_rfl
      ·rintro _ rfl _ rfl _ rfl; refine R.ix (hI1) Tryz.runUnderlying99 Tryz.sizeOf101 ?_; refine R.nl ?_; exact Run.loc rfl rfl rfl
      apply TC.val [0]; exact rfl; kernel_rfl
      ·rintro _ rfl _ rfl; refine R.lAD 7 Tryz.isAgg101 Tryz.sizeOf101 ?_; refine R.nl ?_; exact Run.loc rfl rfl rfl
      apply TC.val []; exact rfl; kernel_rfl
      ·rintro _ rfl ; refine R.mv ?_; refine R.nl ?_; exact Run.loc rfl rfl rfl
      apply TC.val []; exact rfl; kernel_rfl
      ·rintro _ rfl ; refine R.mv ?_; refine R.nl ?_; exact Run.loc rfl rfl rfl
      apply TC.val [1, 0]; exact rfl; kernel_rfl
      ·rintro _ rfl _ rfl _ rfl; refine R.ix (hI2) Tryz.runUnderlying99 Tryz.sizeOf101 ?_; refine R.nl ?_; exact Run.loc rfl rfl rfl
      apply TC.val [0]; exact rfl; kernel_rfl
      ·rintro _ rfl _ rfl; refine R.lAD 7 Tryz.isAgg101 Tryz.sizeOf101 ?_; refine R.nl ?_; exact Run.loc rfl rfl rfl
      refine TC.fin (by rfl) ?_; rintro _ rfl _ rfl _ rfl _ rfl _ rfl _ rfl _ rfl _ rfl _ rfl _ rfl _ rfl _ rfl; refine R.cy (Tryz.call92) (cmpV_spec x y) ?_; refine R.cm ?_; refine R.nt ?_; refine R.nl ?_; refine R.hs (e' := [(0, _), (1, _), (2, _), (3, _), (4, _), (18, _), (19, _), (20, _), (21, _), (22, _), (23, _), (171, _)]) ?_; refine R.cd (fun zc77 => ?_) (fun zc77 => ?_)
      ·refine R.rg ?_; refine R.mv ?_; refine R.ad ?_; refine R.as ?_; refine R.nl ?_; refine R.hs (e' := [(0, _), (1, _), (2, _), (3, _), (4, _), (18, _), (19, _), (20, _), (21, _), (22, _)]) ?_; refine Run.endBlock ?_
       first | exact Run.again ((s + r) / 2 + 1, r) ⟨by simp <;> omega, by simp <;> omega, by simp <;> omega, by simp <;> omega, by simp <;> omega⟩ (by simp <;> omega) (by refine ⟨rfl, rfl, ?_⟩; repeat (first | exact trivial | refine ⟨rfl, ?_⟩)) (fun w hs => hs) | exact Run.again (s, (s + r) / 2) ⟨by simp <;> omega, by simp <;> omega, by simp <;> omega, by simp <;> omega, by simp <;> omega⟩ (by simp <;> omega) (by refine ⟨rfl, rfl, ?_⟩; repeat (first | exact trivial | refine ⟨rfl, ?_⟩)) (fun w hs => hs)
      ·refine R.rg ?_; refine R.mv ?_; refine R.as ?_; refine R.nl ?_; refine R.hs (e' := [(0, _), (1, _), (2, _), (3, _), (4, _), (18, _), (19, _), (20, _), (21, _), (22, _)]) ?_; refine Run.endBlock ?_
       first | exact Run.again ((s + r) / 2 + 1, r) ⟨by simp <;> omega, by simp <;> omega, by simp <;> omega, by simp <;> omega, by simp <;> omega⟩ (by simp <;> omega) (by refine ⟨rfl, rfl, ?_⟩; repeat (first | exact trivial | refine ⟨rfl, ?_⟩)) (fun w hs => hs) | exact Run.again (s, (s + r) / 2) ⟨by simp <;> omega, by simp <;> omega, by simp <;> omega, by simp <;> omega, by simp <;> omega⟩ (by simp <;> omega) (by refine ⟨rfl, rfl, ?_⟩; repeat (first | exact trivial | refine ⟨rfl, ?_⟩)) (fun w hs => hs)
     ·
      have hge : s = r := by simp at zc64; omega
      have hOc := ho
      have hpx := List.Perm.refl xs
      have hlx := hpx.length_eq
      refine Run.exit rfl ?_; refine R.sq ?_; refine R.rg ?_; refine R.mv ?_; refine R.mv ?_; refine R.sb ?_; refine R.as ?_; refine R.nl ?_; refine R.hs (e' := [(0, _), (1, _), (2, _), (3, _), (4, _), (18, _), (20, _), (24, _)]) ?_; refine R.sq ?_; refine R.sq ?_; refine R.rg ?_; refine R.mv ?_; refine R.mv ?_; refine R.cm ?_; refine R.mv ?_; refine R.gd (fun zg78 => ?_) (fun zg78 => ?_)
      ·refine R.mv ?_; refine R.gY (zg78) ?_; refine R.mv ?_; refine R.gY (zg78) ?_; refine R.cm ?_; refine R.pT (zg78) ?_; refine R.nl ?_; refine R.hs (e' := [(0, _), (1, _), (2, _), (3, _), (4, _), (18, _), (20, _), (24, _), (185, _)]) ?_; refine R.cd (fun zc79 => ?_) (fun zc79 => ?_)
       ·
        have hsm : s < m ∧ m < mid + m - s := by simp_all
        refine R.rg ?_; refine R.mv ?_; refine R.mv ?_; refine R.mv ?_; refine R.mv ?_; refine R.mv ?_; refine R.ca Tryz.call165 (rotate_spec s m (mid + m - s) (by omega) (by omega) (by omega) (by omega) (by omega) hOc) ?_; rintro _ _ _ ⟨rfl, zs', q', hO', hp', rfl⟩
        have hOc := hO'
        have hpx := hp'.trans hpx
        have hlx := hpx.length_eq
        refine R.nl ?_; refine R.hs (e' := [(0, _), (1, _), (3, _), (4, _), (18, _), (20, _), (24, _)]) ?_; refine R.sq ?_; refine R.sq ?_; refine R.rg ?_; refine R.mv ?_; refine R.mv ?_; refine R.cm ?_; refine R.mv ?_; refine R.gd (fun zg80 => ?_) (fun zg80 => ?_)
        ·refine R.mv ?_; refine R.gY (zg80) ?_; refine R.mv ?_; refine R.gY (zg80) ?_; refine R.cm ?_; refine R.pT (zg80) ?_; refine R.nl ?_; refine R.hs (e' := [(0, _), (1, _), (3, _), (4, _), (18, _), (20, _), (24, _), (199, _)]) ?_; refine R.cd (fun zc81 => ?_) (fun zc81 => ?_)
         ·
          have hsm : a < s ∧ s < mid := by simp_all
          refine R.rg ?_; refine R.mv ?_; refine R.mv ?_; refine R.mv ?_; refine R.mv ?_; refine R.mv ?_; refine R.ca Tryz.call139 (ih ((mid - a).toNat) (by omega) a s mid rfl (by omega) (by omega) (by omega) (by omega) (by omega) hOc) ?_; rintro _ _ _ ⟨rfl, zs', q', hO', hp', rfl⟩
          have hOc := hO'
          have hpx := hp'.trans hpx
          have hlx := hpx.length_eq
          refine R.nl ?_; refine R.hs (e' := [(0, _), (3, _), (4, _), (18, _), (24, _)]) ?_; refine R.sq ?_; refine R.rg ?_; refine R.mv ?_; refine R.mv ?_; refine R.cm ?_; refine R.mv ?_; refine R.gd (fun zg82 => ?_) (fun zg82 => ?_)
          ·refine R.mv ?_; refine R.gY (zg82) ?_; refine R.mv ?_; refine R.gY (zg82) ?_; refine R.cm ?_; refine R.pT (zg82) ?_; refine R.nl ?_; refine R.hs (e' := [(0, _), (3, _), (4, _), (18, _), (24, _), (213, _)]) ?_; refine R.cd (fun zc83 => ?_) (fun zc83 => ?_)
           ·
            have hsm : mid < mid + m - s ∧ mid + m - s < b := by simp_all
            refine R.rg ?_; refine R.mv ?_; refine R.mv ?_; refine R.mv ?_; refine R.mv ?_; refine R.mv ?_; refine R.ca Tryz.call139 (ih ((b - mid).toNat) (by omega) mid (mid + m - s) b rfl (by omega) (by omega) (by omega) (by omega) (by omega) hOc) ?_; rintro _ _ _ ⟨rfl, zs', q', hO', hp', rfl⟩
            have hOc := hO'
            have hpx := hp'.trans hpx
            have hlx := hpx.length_eq
            refine R.nl ?_; refine R.hs (e' := []) ?_
            first
              | exact R.rk (u := .tuple #[]) .nil 0 ⟨rfl, ws, q1, hOw, hpw, rfl⟩
              | exact R.fn (u := .tuple #[]) .nil 0 ⟨rfl, _, _, hOc, hpx, rfl⟩
           ·refine Run.skip ?_
            first
              | exact R.rk (u := .tuple #[]) .nil 0 ⟨rfl, ws, q1, hOw, hpw, rfl⟩
              | exact R.fn (u := .tuple #[]) .nil 0 ⟨rfl, _, _, hOc, hpx, rfl⟩
          ·refine R.gF (zg82) ?_; refine R.gF (zg82) ?_; refine R.pF (zg82) ?_; refine R.nl ?_; refine R.hs (e' := [(0, _), (3, _), (4, _), (18, _), (24, _), (213, _)]) ?_; refine R.cF (rfl) ?_; refine Run.skip ?_
           first
             | exact R.rk (u := .tuple #[]) .nil 0 ⟨rfl, ws, q1, hOw, hpw, rfl⟩
             | exact R.fn (u := .tuple #[]) .nil 0 ⟨rfl, _, _, hOc, hpx, rfl⟩
         ·refine Run.skip ?_; refine R.sq ?_; refine R.rg ?_; refine R.mv ?_; refine R.mv ?_; refine R.cm ?_; refine R.mv ?_; refine R.gd (fun zg84 => ?_) (fun zg84 => ?_)
          ·refine R.mv ?_; refine R.gY (zg84) ?_; refine R.mv ?_; refine R.gY (zg84) ?_; refine R.cm ?_; refine R.pT (zg84) ?_; refine R.nl ?_; refine R.hs (e' := [(0, _), (3, _), (4, _), (18, _), (24, _), (213, _)]) ?_; refine R.cd (fun zc85 => ?_) (fun zc85 => ?_)
           ·
            have hsm : mid < mid + m - s ∧ mid + m - s < b := by simp_all
            refine R.rg ?_; refine R.mv ?_; refine R.mv ?_; refine R.mv ?_; refine R.mv ?_; refine R.mv ?_; refine R.ca Tryz.call139 (ih ((b - mid).toNat) (by omega) mid (mid + m - s) b rfl (by omega) (by omega) (by omega) (by omega) (by omega) hOc) ?_; rintro _ _ _ ⟨rfl, zs', q', hO', hp', rfl⟩
            have hOc := hO'
            have hpx := hp'.trans hpx
            have hlx := hpx.length_eq
            refine R.nl ?_; refine R.hs (e' := []) ?_
            first
              | exact R.rk (u := .tuple #[]) .nil 0 ⟨rfl, ws, q1, hOw, hpw, rfl⟩
              | exact R.fn (u := .tuple #[]) .nil 0 ⟨rfl, _, _, hOc, hpx, rfl⟩
           ·refine Run.skip ?_
            first
              | exact R.rk (u := .tuple #[]) .nil 0 ⟨rfl, ws, q1, hOw, hpw, rfl⟩
              | exact R.fn (u := .tuple #[]) .nil 0 ⟨rfl, _, _, hOc, hpx, rfl⟩
          ·refine R.gF (zg84) ?_; refine R.gF (zg84) ?_; refine R.pF (zg84) ?_; refine R.nl ?_; refine R.hs (e' := [(0, _), (3, _), (4, _), (18, _), (24, _), (213, _)]) ?_; refine R.cF (rfl) ?_; refine Run.skip ?_
           first
             | exact R.rk (u := .tuple #[]) .nil 0 ⟨rfl, ws, q1, hOw, hpw, rfl⟩
             | exact R.fn (u := .tuple #[]) .nil 0 ⟨rfl, _, _, hOc, hpx, rfl⟩
        ·refine R.gF (zg80) ?_; refine R.gF (zg80) ?_; refine R.pF (zg80) ?_; refine R.nl ?_; refine R.hs (e' := [(0, _), (1, _), (3, _), (4, _), (18, _), (20, _), (24, _), (199, _)]) ?_; refine R.cF (rfl) ?_; refine Run.skip ?_; refine R.sq ?_; refine R.rg ?_; refine R.mv ?_; refine R.mv ?_; refine R.cm ?_; refine R.mv ?_; refine R.gd (fun zg86 => ?_) (fun zg86 => ?_)
         ·refine R.mv ?_; refine R.gY (zg86) ?_; refine R.mv ?_; refine R.gY (zg86) ?_; refine R.cm ?_; refine R.pT (zg86) ?_; refine R.nl ?_; refine R.hs (e' := [(0, _), (3, _), (4, _), (18, _), (24, _), (213, _)]) ?_; refine R.cd (fun zc87 => ?_) (fun zc87 => ?_)
          ·
           have hsm : mid < mid + m - s ∧ mid + m - s < b := by simp_all
           refine R.rg ?_; refine R.mv ?_; refine R.mv ?_; refine R.mv ?_; refine R.mv ?_; refine R.mv ?_; refine R.ca Tryz.call139 (ih ((b - mid).toNat) (by omega) mid (mid + m - s) b rfl (by omega) (by omega) (by omega) (by omega) (by omega) hOc) ?_; rintro _ _ _ ⟨rfl, zs', q', hO', hp', rfl⟩
           have hOc := hO'
           have hpx := hp'.trans hpx
           have hlx := hpx.length_eq
           refine R.nl ?_; refine R.hs (e' := []) ?_
           first
             | exact R.rk (u := .tuple #[]) .nil 0 ⟨rfl, ws, q1, hOw, hpw, rfl⟩
             | exact R.fn (u := .tuple #[]) .nil 0 ⟨rfl, _, _, hOc, hpx, rfl⟩
          ·refine Run.skip ?_
           first
             | exact R.rk (u := .tuple #[]) .nil 0 ⟨rfl, ws, q1, hOw, hpw, rfl⟩
             | exact R.fn (u := .tuple #[]) .nil 0 ⟨rfl, _, _, hOc, hpx, rfl⟩
         ·refine R.gF (zg86) ?_; refine R.gF (zg86) ?_; refine R.pF (zg86) ?_; refine R.nl ?_; refine R.hs (e' := [(0, _), (3, _), (4, _), (18, _), (24, _), (213, _)]) ?_; refine R.cF (rfl) ?_; refine Run.skip ?_
          first
            | exact R.rk (u := .tuple #[]) .nil 0 ⟨rfl, ws, q1, hOw, hpw, rfl⟩
            | exact R.fn (u := .tuple #[]) .nil 0 ⟨rfl, _, _, hOc, hpx, rfl⟩
       ·refine Run.skip ?_; refine R.sq ?_; refine R.sq ?_; refine R.rg ?_; refine R.mv ?_; refine R.mv ?_; refine R.cm ?_; refine R.mv ?_; refine R.gd (fun zg88 => ?_) (fun zg88 => ?_)
        ·refine R.mv ?_; refine R.gY (zg88) ?_; refine R.mv ?_; refine R.gY (zg88) ?_; refine R.cm ?_; refine R.pT (zg88) ?_; refine R.nl ?_; refine R.hs (e' := [(0, _), (1, _), (3, _), (4, _), (18, _), (20, _), (24, _), (199, _)]) ?_; refine R.cd (fun zc89 => ?_) (fun zc89 => ?_)
         ·
          have hsm : a < s ∧ s < mid := by simp_all
          refine R.rg ?_; refine R.mv ?_; refine R.mv ?_; refine R.mv ?_; refine R.mv ?_; refine R.mv ?_; refine R.ca Tryz.call139 (ih ((mid - a).toNat) (by omega) a s mid rfl (by omega) (by omega) (by omega) (by omega) (by omega) hOc) ?_; rintro _ _ _ ⟨rfl, zs', q', hO', hp', rfl⟩
          have hOc := hO'
          have hpx := hp'.trans hpx
          have hlx := hpx.length_eq
          refine R.nl ?_; refine R.hs (e' := [(0, _), (3, _), (4, _), (18, _), (24, _)]) ?_; refine R.sq ?_; refine R.rg ?_; refine R.mv ?_; refine R.mv ?_; refine R.cm ?_; refine R.mv ?_; refine R.gd (fun zg90 => ?_) (fun zg90 => ?_)
          ·refine R.mv ?_; refine R.gY (zg90) ?_; refine R.mv ?_; refine R.gY (zg90) ?_; refine R.cm ?_; refine R.pT (zg90) ?_; refine R.nl ?_; refine R.hs (e' := [(0, _), (3, _), (4, _), (18, _), (24, _), (213, _)]) ?_; refine R.cd (fun zc91 => ?_) (fun zc91 => ?_)
           ·
            have hsm : mid < mid + m - s ∧ mid + m - s < b := by simp_all
            refine R.rg ?_; refine R.mv ?_; refine R.mv ?_; refine R.mv ?_; refine R.mv ?_; refine R.mv ?_; refine R.ca Tryz.call139 (ih ((b - mid).toNat) (by omega) mid (mid + m - s) b rfl (by omega) (by omega) (by omega) (by omega) (by omega) hOc) ?_; rintro _ _ _ ⟨rfl, zs', q', hO', hp', rfl⟩
            have hOc := hO'
            have hpx := hp'.trans hpx
            have hlx := hpx.length_eq
            refine R.nl ?_; refine R.hs (e' := []) ?_
            first
              | exact R.rk (u := .tuple #[]) .nil 0 ⟨rfl, ws, q1, hOw, hpw, rfl⟩
              | exact R.fn (u := .tuple #[]) .nil 0 ⟨rfl, _, _, hOc, hpx, rfl⟩
           ·refine Run.skip ?_
            first
              | exact R.rk (u := .tuple #[]) .nil 0 ⟨rfl, ws, q1, hOw, hpw, rfl⟩
              | exact R.fn (u := .tuple #[]) .nil 0 ⟨rfl, _, _, hOc, hpx, rfl⟩
          ·refine R.gF (zg90) ?_; refine R.gF (zg90) ?_; refine R.pF (zg90) ?_; refine R.nl ?_; refine R.hs (e' := [(0, _), (3, _), (4, _), (18, _), (24, _), (213, _)]) ?_; refine R.cF (rfl) ?_; refine Run.skip ?_
           first
             | exact R.rk (u := .tuple #[]) .nil 0 ⟨rfl, ws, q1, hOw, hpw, rfl⟩
             | exact R.fn (u := .tuple #[]) .nil 0 ⟨rfl, _, _, hOc, hpx, rfl⟩
         ·refine Run.skip ?_; refine R.sq ?_; refine R.rg ?_; refine R.mv ?_; refine R.mv ?_; refine R.cm ?_; refine R.mv ?_; refine R.gd (fun zg92 => ?_) (fun zg92 => ?_)
          ·refine R.mv ?_; refine R.gY (zg92) ?_; refine R.mv ?_; refine R.gY (zg92) ?_; refine R.cm ?_; refine R.pT (zg92) ?_; refine R.nl ?_; refine R.hs (e' := [(0, _), (3, _), (4, _), (18, _), (24, _), (213, _)]) ?_; refine R.cd (fun zc93 => ?_) (fun zc93 => ?_)
           ·
            have hsm : mid < mid + m - s ∧ mid + m - s < b := by simp_all
            refine R.rg ?_; refine R.mv ?_; refine R.mv ?_; refine R.mv ?_; refine R.mv ?_; refine R.mv ?_; refine R.ca Tryz.call139 (ih ((b - mid).toNat) (by omega) mid (mid + m - s) b rfl (by omega) (by omega) (by omega) (by omega) (by omega) hOc) ?_; rintro _ _ _ ⟨rfl, zs', q', hO', hp', rfl⟩
            have hOc := hO'
            have hpx := hp'.trans hpx
            have hlx := hpx.length_eq
            refine R.nl ?_; refine R.hs (e' := []) ?_
            first
              | exact R.rk (u := .tuple #[]) .nil 0 ⟨rfl, ws, q1, hOw, hpw, rfl⟩
              | exact R.fn (u := .tuple #[]) .nil 0 ⟨rfl, _, _, hOc, hpx, rfl⟩
           ·refine Run.skip ?_
            first
              | exact R.rk (u := .tuple #[]) .nil 0 ⟨rfl, ws, q1, hOw, hpw, rfl⟩
              | exact R.fn (u := .tuple #[]) .nil 0 ⟨rfl, _, _, hOc, hpx, rfl⟩
          ·refine R.gF (zg92) ?_; refine R.gF (zg92) ?_; refine R.pF (zg92) ?_; refine R.nl ?_; refine R.hs (e' := [(0, _), (3, _), (4, _), (18, _), (24, _), (213, _)]) ?_; refine R.cF (rfl) ?_; refine Run.skip ?_
           first
             | exact R.rk (u := .tuple #[]) .nil 0 ⟨rfl, ws, q1, hOw, hpw, rfl⟩
             | exact R.fn (u := .tuple #[]) .nil 0 ⟨rfl, _, _, hOc, hpx, rfl⟩
        ·refine R.gF (zg88) ?_; refine R.gF (zg88) ?_; refine R.pF (zg88) ?_; refine R.nl ?_; refine R.hs (e' := [(0, _), (1, _), (3, _), (4, _), (18, _), (20, _), (24, _), (199, _)]) ?_; refine R.cF (rfl) ?_; refine Run.skip ?_; refine R.sq ?_; refine R.rg ?_; refine R.mv ?_; refine R.mv ?_; refine R.cm ?_; refine R.mv ?_; refine R.gd (fun zg94 => ?_) (fun zg94 => ?_)
         ·refine R.mv ?_; refine R.gY (zg94) ?_; refine R.mv ?_; refine R.gY (zg94) ?_; refine R.cm ?_; refine R.pT (zg94) ?_; refine R.nl ?_; refine R.hs (e' := [(0, _), (3, _), (4, _), (18, _), (24, _), (213, _)]) ?_; refine R.cd (fun zc95 => ?_) (fun zc95 => ?_)
          ·
           have hsm : mid < mid + m - s ∧ mid + m - s < b := by simp_all
           refine R.rg ?_; refine R.mv ?_; refine R.mv ?_; refine R.mv ?_; refine R.mv ?_; refine R.mv ?_; refine R.ca Tryz.call139 (ih ((b - mid).toNat) (by omega) mid (mid + m - s) b rfl (by omega) (by omega) (by omega) (by omega) (by omega) hOc) ?_; rintro _ _ _ ⟨rfl, zs', q', hO', hp', rfl⟩
           have hOc := hO'
           have hpx := hp'.trans hpx
           have hlx := hpx.length_eq
           refine R.nl ?_; refine R.hs (e' := []) ?_
           first
             | exact R.rk (u := .tuple #[]) .nil 0 ⟨rfl, ws, q1, hOw, hpw, rfl⟩
             | exact R.fn (u := .tuple #[]) .nil 0 ⟨rfl, _, _, hOc, hpx, rfl⟩
          ·refine Run.skip ?_
           first
             | exact R.rk (u := .tuple #[]) .nil 0 ⟨rfl, ws, q1, hOw, hpw, rfl⟩
             | exact R.fn (u := .tuple #[]) .nil 0 ⟨rfl, _, _, hOc, hpx, rfl⟩
         ·refine R.gF (zg94) ?_; refine R.gF (zg94) ?_; refine R.pF (zg94) ?_; refine R.nl ?_; refine R.hs (e' := [(0, _), (3, _), (4, _), (18, _), (24, _), (213, _)]) ?_; refine R.cF (rfl) ?_; refine Run.skip ?_
          first
            | exact R.rk (u := .tuple #[]) .nil 0 ⟨rfl, ws, q1, hOw, hpw, rfl⟩
            | exact R.fn (u := .tuple #[]) .nil 0 ⟨rfl, _, _, hOc, hpx, rfl⟩
      ·refine R.gF (zg78) ?_; refine R.gF (zg78) ?_; refine R.pF (zg78) ?_; refine R.nl ?_; refine R.hs (e' := [(0, _), (1, _), (2, _), (3, _), (4, _), (18, _), (20, _), (24, _), (185, _)]) ?_; refine R.cF (rfl) ?_; refine Run.skip ?_; refine R.sq ?_; refine R.sq ?_; refine R.rg ?_; refine R.mv ?_; refine R.mv ?_; refine R.cm ?_; refine R.mv ?_; refine R.gd (fun zg96 => ?_) (fun zg96 => ?_)
       ·refine R.mv ?_; refine R.gY (zg96) ?_; refine R.mv ?_; refine R.gY (zg96) ?_; refine R.cm ?_; refine R.pT (zg96) ?_; refine R.nl ?_; refine R.hs (e' := [(0, _), (1, _), (3, _), (4, _), (18, _), (20, _), (24, _), (199, _)]) ?_; refine R.cd (fun zc97 => ?_) (fun zc97 => ?_)
        ·
         have hsm : a < s ∧ s < mid := by simp_all
         refine R.rg ?_; refine R.mv ?_; refine R.mv ?_; refine R.mv ?_; refine R.mv ?_; refine R.mv ?_; refine R.ca Tryz.call139 (ih ((mid - a).toNat) (by omega) a s mid rfl (by omega) (by omega) (by omega) (by omega) (by omega) hOc) ?_; rintro _ _ _ ⟨rfl, zs', q', hO', hp', rfl⟩
         have hOc := hO'
         have hpx := hp'.trans hpx
         have hlx := hpx.length_eq
         refine R.nl ?_; refine R.hs (e' := [(0, _), (3, _), (4, _), (18, _), (24, _)]) ?_; refine R.sq ?_; refine R.rg ?_; refine R.mv ?_; refine R.mv ?_; refine R.cm ?_; refine R.mv ?_; refine R.gd (fun zg98 => ?_) (fun zg98 => ?_)
         ·refine R.mv ?_; refine R.gY (zg98) ?_; refine R.mv ?_; refine R.gY (zg98) ?_; refine R.cm ?_; refine R.pT (zg98) ?_; refine R.nl ?_; refine R.hs (e' := [(0, _), (3, _), (4, _), (18, _), (24, _), (213, _)]) ?_; refine R.cd (fun zc99 => ?_) (fun zc99 => ?_)
          ·
           have hsm : mid < mid + m - s ∧ mid + m - s < b := by simp_all
           refine R.rg ?_; refine R.mv ?_; refine R.mv ?_; refine R.mv ?_; refine R.mv ?_; refine R.mv ?_; refine R.ca Tryz.call139 (ih ((b - mid).toNat) (by omega) mid (mid + m - s) b rfl (by omega) (by omega) (by omega) (by omega) (by omega) hOc) ?_; rintro _ _ _ ⟨rfl, zs', q', hO', hp', rfl⟩
           have hOc := hO'
           have hpx := hp'.trans hpx
           have hlx := hpx.length_eq
           refine R.nl ?_; refine R.hs (e' := []) ?_
           first
             | exact R.rk (u := .tuple #[]) .nil 0 ⟨rfl, ws, q1, hOw, hpw, rfl⟩
             | exact R.fn (u := .tuple #[]) .nil 0 ⟨rfl, _, _, hOc, hpx, rfl⟩
          ·refine Run.skip ?_
           first
             | exact R.rk (u := .tuple #[]) .nil 0 ⟨rfl, ws, q1, hOw, hpw, rfl⟩
             | exact R.fn (u := .tuple #[]) .nil 0 ⟨rfl, _, _, hOc, hpx, rfl⟩
         ·refine R.gF (zg98) ?_; refine R.gF (zg98) ?_; refine R.pF (zg98) ?_; refine R.nl ?_; refine R.hs (e' := [(0, _), (3, _), (4, _), (18, _), (24, _), (213, _)]) ?_; refine R.cF (rfl) ?_; refine Run.skip ?_
          first
            | exact R.rk (u := .tuple #[]) .nil 0 ⟨rfl, ws, q1, hOw, hpw, rfl⟩
            | exact R.fn (u := .tuple #[]) .nil 0 ⟨rfl, _, _, hOc, hpx, rfl⟩
        ·refine Run.skip ?_; refine R.sq ?_; refine R.rg ?_; refine R.mv ?_; refine R.mv ?_; refine R.cm ?_; refine R.mv ?_; refine R.gd (fun zg100 => ?_) (fun zg100 => ?_)
         ·refine R.mv ?_; refine R.gY (zg100) ?_; refine R.mv ?_; refine R.gY (zg100) ?_; refine R.cm ?_; refine R.pT (zg100) ?_; refine R.nl ?_; refine R.hs (e' := [(0, _), (3, _), (4, _), (18, _), (24, _), (213, _)]) ?_; refine R.cd (fun zc101 => ?_) (fun zc101 => ?_)
          ·
           have hsm : mid < mid + m - s ∧ mid + m - s < b := by simp_all
           refine R.rg ?_; refine R.mv ?_; refine R.mv ?_; refine R.mv ?_; refine R.mv ?_; refine R.mv ?_; refine R.ca Tryz.call139 (ih ((b - mid).toNat) (by omega) mid (mid + m - s) b rfl (by omega) (by omega) (by omega) (by omega) (by omega) hOc) ?_; rintro _ _ _ ⟨rfl, zs', q', hO', hp', rfl⟩
           have hOc := hO'
           have hpx := hp'.trans hpx
           have hlx := hpx.length_eq
           refine R.nl ?_; refine R.hs (e' := []) ?_
           first
             | exact R.rk (u := .tuple #[]) .nil 0 ⟨rfl, ws, q1, hOw, hpw, rfl⟩
             | exact R.fn (u := .tuple #[]) .nil 0 ⟨rfl, _, _, hOc, hpx, rfl⟩
          ·refine Run.skip ?_
           first
             | exact R.rk (u := .tuple #[]) .nil 0 ⟨rfl, ws, q1, hOw, hpw, rfl⟩
             | exact R.fn (u := .tuple #[]) .nil 0 ⟨rfl, _, _, hOc, hpx, rfl⟩
         ·refine R.gF (zg100) ?_; refine R.gF (zg100) ?_; refine R.pF (zg100) ?_; refine R.nl ?_; refine R.hs (e' := [(0, _), (3, _), (4, _), (18, _), (24, _), (213, _)]) ?_; refine R.cF (rfl) ?_; refine Run.skip ?_
          first
            | exact R.rk (u := .tuple #[]) .nil 0 ⟨rfl, ws, q1, hOw, hpw, rfl⟩
            | exact R.fn (u := .tuple #[]) .nil 0 ⟨rfl, _, _, hOc, hpx, rfl⟩
       ·refine R.gF (zg96) ?_; refine R.gF (zg96) ?_; refine R.pF (zg96) ?_; refine R.nl ?_; refine R.hs (e' := [(0, _), (1, _), (3, _), (4, _), (18, _), (20, _), (24, _), (199, _)]) ?_; refine R.cF (rfl) ?_; refine Run.skip ?_; refine R.sq ?_; refine R.rg ?_; refine R.mv ?_; refine R.mv ?_; refine R.cm ?_; refine R.mv ?_; refine R.gd (fun zg102 => ?_) (fun zg102 => ?_)
        ·refine R.mv ?_; refine R.gY (zg102) ?_; refine R.mv ?_; refine R.gY (zg102) ?_; refine R.cm ?_; refine R.pT (zg102) ?_; refine R.nl ?_; refine R.hs (e' := [(0, _), (3, _), (4, _), (18, _), (24, _), (213, _)]) ?_; refine R.cd (fun zc103 => ?_) (fun zc103 => ?_)
         ·
          have hsm : mid < mid + m - s ∧ mid + m - s < b := by simp_all
          refine R.rg ?_; refine R.mv ?_; refine R.mv ?_; refine R.mv ?_; refine R.mv ?_; refine R.mv ?_; refine R.ca Tryz.call139 (ih ((b - mid).toNat) (by omega) mid (mid + m - s) b rfl (by omega) (by omega) (by omega) (by omega) (by omega) hOc) ?_; rintro _ _ _ ⟨rfl, zs', q', hO', hp', rfl⟩
          have hOc := hO'
          have hpx := hp'.trans hpx
          have hlx := hpx.length_eq
          refine R.nl ?_; refine R.hs (e' := []) ?_
          first
            | exact R.rk (u := .tuple #[]) .nil 0 ⟨rfl, ws, q1, hOw, hpw, rfl⟩
            | exact R.fn (u := .tuple #[]) .nil 0 ⟨rfl, _, _, hOc, hpx, rfl⟩
         ·refine Run.skip ?_
          first
            | exact R.rk (u := .tuple #[]) .nil 0 ⟨rfl, ws, q1, hOw, hpw, rfl⟩
            | exact R.fn (u := .tuple #[]) .nil 0 ⟨rfl, _, _, hOc, hpx, rfl⟩
        ·refine R.gF (zg102) ?_; refine R.gF (zg102) ?_; refine R.pF (zg102) ?_; refine R.nl ?_; refine R.hs (e' := [(0, _), (3, _), (4, _), (18, _), (24, _), (213, _)]) ?_; refine R.cF (rfl) ?_; refine Run.skip ?_
         first
           | exact R.rk (u := .tuple #[]) .nil 0 ⟨rfl, ws, q1, hOw, hpw, rfl⟩
           | exact R.fn (u := .tuple #[]) .nil 0 ⟨rfl, _, _, hOc, hpx, rfl⟩
    ·
     have hmm : ¬ m > mid := by simpa using zc63
     refine R.sq ?_; refine R.rg ?_; refine R.mv ?_; refine R.as ?_; refine R.nl ?_; refine R.hs (e' := [(0, _), (1, _), (2, _), (3, _), (4, _), (18, _), (19, _), (20, _)]) ?_; refine R.rg ?_; refine R.mv ?_; refine R.as ?_; refine R.nl ?_; refine R.hs (e' := [(0, _), (1, _), (2, _), (3, _), (4, _), (18, _), (19, _), (20, _), (21, _)]) ?_; refine R.sq ?_; refine R.rg ?_; refine R.mv ?_; refine R.sb ?_; refine R.as ?_; refine R.nl ?_; refine R.hs (e' := [(0, _), (1, _), (2, _), (3, _), (4, _), (18, _), (19, _), (20, _), (21, _), (22, _)]) ?_; refine R.sq ?_; refine Run.block ?_
     refine Run.loop (ι := Int × Int) [(0, _), (1, _), (2, _), (3, _), (4, _), (18, _), (19, _), (22, _)] (fun p => [(20, .int .i64 p.1), (21, .int .i64 p.2)]) (fun _ => D) (fun _ => q ++ Z) (fun p => a ≤ p.1 ∧ p.1 ≤ p.2 ∧ p.2 ≤ b ∧ mid + m - p.1 ≤ b ∧ a ≤ mid + m - p.2) (fun p => (p.2 - p.1).toNat) ((by first | exact (fun _ : m > mid => (mid + m - b, mid)) hmm | exact (a, m))) (by repeat (first | exact trivial | refine ⟨rfl, ?_⟩)) ?h0 (by repeat (first | exact trivial | refine ⟨rfl, ?_⟩)) (fun w hs => hs) ?_
     case h0 => exact ⟨by simp <;> omega, by simp <;> omega, by simp <;> omega, by simp <;> omega, by simp <;> omega⟩
     rintro ⟨s, r⟩ ⟨hs0, hsr, hr0, hs1, hr1⟩
     simp only at hs0 hsr hr0 hs1 hr1
     refine R.sq ?_; refine R.sq ?_; refine R.rg ?_; refine R.mv ?_; refine R.mv ?_; refine R.cm ?_; refine R.nl ?_; refine R.hs (e' := [(0, _), (1, _), (2, _), (3, _), (4, _), (18, _), (19, _), (20, _), (21, _), (22, _), (151, _)]) ?_; refine R.cd (fun zc104 => ?_) (fun zc104 => ?_)
     ·
      have hlt : s < r := by simpa using zc104
      obtain ⟨x, hgx⟩ := get_of_lt (xs := xs) (i := (mid + m - 1 - (s + r) / 2).toNat) (by omega)
      obtain ⟨y, hgy⟩ := get_of_lt (xs := xs) (i := ((s + r) / 2).toNat) (by omega)
      obtain ⟨b1, o1, hI1, hc1⟩ := ho.ix (D := D) (Z := Z) hgx
      obtain ⟨b2, o2, hI2, hc2⟩ := ho.ix (D := D) (Z := Z) hgy
      refine Run.skip ?_; refine Run.block ?_; refine R.sq ?_; refine R.rg ?_; refine R.mv ?_; refine R.mv ?_; refine R.ad ?_; refine R.cv Tryz.runUnderlying3 Tryz.runUnderlying97 (wrapU (show 0 ≤ s + r by omega) (show s + r ≤ 18446744073709551615 by omega)) ?_; refine R.sr (half_u64 (show 0 ≤ s + r by omega)) ?_; refine R.cv Tryz.runUnderlying97 Tryz.runUnderlying3 (wrap_i64 (show -9223372036854775808 ≤ (s + r) / 2 by omega) (show (s + r) / 2 ≤ 9223372036854775807 by omega)) ?_; refine R.as ?_; refine R.nl ?_; refine R.hs (e' := [(0, _), (1, _), (2, _), (3, _), (4, _), (18, _), (19, _), (20, _), (21, _), (22, _), (23, _)]) ?_; refine R.sq ?_; refine Run.drawC Grow.eq 11 [(0, _), (1, _), (2, _), (3, _), (4, _), (18, _), (19, _), (20, _), (21, _), (22, _), (23, _)] mix (by kernel_rfl) (by repeat (first | exact trivial | refine ⟨rfl, ?_⟩)) ?_; apply TC.val []; exact rfl; kernel_rfl
      ·rintro _ rfl ; refine R.mv ?_; refine R.nl ?_; exact Run.loc rfl rfl rfl
      apply TC.val []; exact rfl; kernel_rfl
      ·rintro _ rfl ; refine R.mv ?_; refine R.nl ?_; exact Run.loc rfl rfl rfl
      apply TC.val []; exact rfl; kernel_rfl
      ·rintro _ rfl ; refine R.mv ?_; refine R.nl ?_; exact Run.loc rfl rfl rfl
      apply TC.val []; exact rfl; kernel_rfl
      ·rintro _ rfl ; refine R.mv ?_; refine R.nl ?_; exact Run.loc rfl rfl rfl
      apply TC.val [1, 0]; exact rfl; kernel_rfl
      ·rintro _ rfl _ rfl _ rfl; refine R.sb ?_; refine R.nl ?_; exact Run.loc rfl rfl rfl
      apply TC.val [3, 0]; exact rfl; kernel_rfl
      ·rintro _ rfl _ rfl _ rfl; refine R.ix (hI1) Tryz.runUnderlying99 Tryz.sizeOf101 ?_; refine R.nl ?_; exact Run.loc rfl rfl rfl
      apply TC.val [0]; exact rfl; kernel_rfl
      ·rintro _ rfl _ rfl; refine R.lAD 7 Tryz.isAgg101 Tryz.sizeOf101 ?_; refine R.nl ?_; exact Run.loc rfl rfl rfl
      apply TC.val []; exact rfl; kernel_rfl
      ·rintro _ rfl ; refine R.mv ?_; refine R.nl ?_; exact Run.loc rfl rfl rfl
      apply TC.val []; exact rfl; kernel_rfl
      ·rintro _ rfl ; refine R.mv ?_; refine R.nl ?_; exact Run.loc rfl rfl rfl
      apply TC.val [1, 0]; exact rfl; kernel_rfl
      ·rintro _ rfl _ rfl _ rfl; refine R.ix (hI2) Tryz.runUnderlying99 Tryz.sizeOf101 ?_; refine R.nl ?_; exact Run.loc rfl rfl rfl
      apply TC.val [0]; exact rfl; kernel_rfl
      ·rintro _ rfl _ rfl; refine R.lAD 7 Tryz.isAgg101 Tryz.sizeOf101 ?_; refine R.nl ?_; exact Run.loc rfl rfl rfl
      refine TC.fin (by rfl) ?_; rintro _ rfl _ rfl _ rfl _ rfl _ rfl _ rfl _ rfl _ rfl _ rfl _ rfl _ rfl _ rfl; refine R.cy (Tryz.call92) (cmpV_spec x y) ?_; refine R.cm ?_; refine R.nt ?_; refine R.nl ?_; refine R.hs (e' := [(0, _), (1, _), (2, _), (3, _), (4, _), (18, _), (19, _), (20, _), (21, _), (22, _), (23, _), (171, _)]) ?_; refine R.cd (fun zc117 => ?_) (fun zc117 => ?_)
      ·refine R.rg ?_; refine R.mv ?_; refine R.ad ?_; refine R.as ?_; refine R.nl ?_; refine R.hs (e' := [(0, _), (1, _), (2, _), (3, _), (4, _), (18, _), (19, _), (20, _), (21, _), (22, _)]) ?_; refine Run.endBlock ?_
       first | exact Run.again ((s + r) / 2 + 1, r) ⟨by simp <;> omega, by simp <;> omega, by simp <;> omega, by simp <;> omega, by simp <;> omega⟩ (by simp <;> omega) (by refine ⟨rfl, rfl, ?_⟩; repeat (first | exact trivial | refine ⟨rfl, ?_⟩)) (fun w hs => hs) | exact Run.again (s, (s + r) / 2) ⟨by simp <;> omega, by simp <;> omega, by simp <;> omega, by simp <;> omega, by simp <;> omega⟩ (by simp <;> omega) (by refine ⟨rfl, rfl, ?_⟩; repeat (first | exact trivial | refine ⟨rfl, ?_⟩)) (fun w hs => hs)
      ·refine R.rg ?_; refine R.mv ?_; refine R.as ?_; refine R.nl ?_; refine R.hs (e' := [(0, _), (1, _), (2, _), (3, _), (4, _), (18, _), (19, _), (20, _), (21, _), (22, _)]) ?_; refine Run.endBlock ?_
       first | exact Run.again ((s + r) / 2 + 1, r) ⟨by simp <;> omega, by simp <;> omega, by simp <;> omega, by simp <;> omega, by simp <;> omega⟩ (by simp <;> omega) (by refine ⟨rfl, rfl, ?_⟩; repeat (first | exact trivial | refine ⟨rfl, ?_⟩)) (fun w hs => hs) | exact Run.again (s, (s + r) / 2) ⟨by simp <;> omega, by simp <;> omega, by simp <;> omega, by simp <;> omega, by simp <;> omega⟩ (by simp <;> omega) (by refine ⟨rfl, rfl, ?_⟩; repeat (first | exact trivial | refine ⟨rfl, ?_⟩)) (fun w hs => hs)
     ·
      have hge : s = r := by simp at zc104; omega
      have hOc := ho
      have hpx := List.Perm.refl xs
      have hlx := hpx.length_eq
      refine Run.exit rfl ?_; refine R.sq ?_; refine R.rg ?_; refine R.mv ?_; refine R.mv ?_; refine R.sb ?_; refine R.as ?_; refine R.nl ?_; refine R.hs (e' := [(0, _), (1, _), (2, _), (3, _), (4, _), (18, _), (20, _), (24, _)]) ?_; refine R.sq ?_; refine R.sq ?_; refine R.rg ?_; refine R.mv ?_; refine R.mv ?_; refine R.cm ?_; refine R.mv ?_; refine R.gd (fun zg118 => ?_) (fun zg118 => ?_)
      ·refine R.mv ?_; refine R.gY (zg118) ?_; refine R.mv ?_; refine R.gY (zg118) ?_; refine R.cm ?_; refine R.pT (zg118) ?_; refine R.nl ?_; refine R.hs (e' := [(0, _), (1, _), (2, _), (3, _), (4, _), (18, _), (20, _), (24, _), (185, _)]) ?_; refine R.cd (fun zc119 => ?_) (fun zc119 => ?_)
       ·
        have hsm : s < m ∧ m < mid + m - s := by simp_all
        refine R.rg ?_; refine R.mv ?_; refine R.mv ?_; refine R.mv ?_; refine R.mv ?_; refine R.mv ?_; refine R.ca Tryz.call165 (rotate_spec s m (mid + m - s) (by omega) (by omega) (by omega) (by omega) (by omega) hOc) ?_; rintro _ _ _ ⟨rfl, zs', q', hO', hp', rfl⟩
        have hOc := hO'
        have hpx := hp'.trans hpx
        have hlx := hpx.length_eq
        refine R.nl ?_; refine R.hs (e' := [(0, _), (1, _), (3, _), (4, _), (18, _), (20, _), (24, _)]) ?_; refine R.sq ?_; refine R.sq ?_; refine R.rg ?_; refine R.mv ?_; refine R.mv ?_; refine R.cm ?_; refine R.mv ?_; refine R.gd (fun zg120 => ?_) (fun zg120 => ?_)
        ·refine R.mv ?_; refine R.gY (zg120) ?_; refine R.mv ?_; refine R.gY (zg120) ?_; refine R.cm ?_; refine R.pT (zg120) ?_; refine R.nl ?_; refine R.hs (e' := [(0, _), (1, _), (3, _), (4, _), (18, _), (20, _), (24, _), (199, _)]) ?_; refine R.cd (fun zc121 => ?_) (fun zc121 => ?_)
         ·
          have hsm : a < s ∧ s < mid := by simp_all
          refine R.rg ?_; refine R.mv ?_; refine R.mv ?_; refine R.mv ?_; refine R.mv ?_; refine R.mv ?_; refine R.ca Tryz.call139 (ih ((mid - a).toNat) (by omega) a s mid rfl (by omega) (by omega) (by omega) (by omega) (by omega) hOc) ?_; rintro _ _ _ ⟨rfl, zs', q', hO', hp', rfl⟩
          have hOc := hO'
          have hpx := hp'.trans hpx
          have hlx := hpx.length_eq
          refine R.nl ?_; refine R.hs (e' := [(0, _), (3, _), (4, _), (18, _), (24, _)]) ?_; refine R.sq ?_; refine R.rg ?_; refine R.mv ?_; refine R.mv ?_; refine R.cm ?_; refine R.mv ?_; refine R.gd (fun zg122 => ?_) (fun zg122 => ?_)
          ·refine R.mv ?_; refine R.gY (zg122) ?_; refine R.mv ?_; refine R.gY (zg122) ?_; refine R.cm ?_; refine R.pT (zg122) ?_; refine R.nl ?_; refine R.hs (e' := [(0, _), (3, _), (4, _), (18, _), (24, _), (213, _)]) ?_; refine R.cd (fun zc123 => ?_) (fun zc123 => ?_)
           ·
            have hsm : mid < mid + m - s ∧ mid + m - s < b := by simp_all
            refine R.rg ?_; refine R.mv ?_; refine R.mv ?_; refine R.mv ?_; refine R.mv ?_; refine R.mv ?_; refine R.ca Tryz.call139 (ih ((b - mid).toNat) (by omega) mid (mid + m - s) b rfl (by omega) (by omega) (by omega) (by omega) (by omega) hOc) ?_; rintro _ _ _ ⟨rfl, zs', q', hO', hp', rfl⟩
            have hOc := hO'
            have hpx := hp'.trans hpx
            have hlx := hpx.length_eq
            refine R.nl ?_; refine R.hs (e' := []) ?_
            first
              | exact R.rk (u := .tuple #[]) .nil 0 ⟨rfl, ws, q1, hOw, hpw, rfl⟩
              | exact R.fn (u := .tuple #[]) .nil 0 ⟨rfl, _, _, hOc, hpx, rfl⟩
           ·refine Run.skip ?_
            first
              | exact R.rk (u := .tuple #[]) .nil 0 ⟨rfl, ws, q1, hOw, hpw, rfl⟩
              | exact R.fn (u := .tuple #[]) .nil 0 ⟨rfl, _, _, hOc, hpx, rfl⟩
          ·refine R.gF (zg122) ?_; refine R.gF (zg122) ?_; refine R.pF (zg122) ?_; refine R.nl ?_; refine R.hs (e' := [(0, _), (3, _), (4, _), (18, _), (24, _), (213, _)]) ?_; refine R.cF (rfl) ?_; refine Run.skip ?_
           first
             | exact R.rk (u := .tuple #[]) .nil 0 ⟨rfl, ws, q1, hOw, hpw, rfl⟩
             | exact R.fn (u := .tuple #[]) .nil 0 ⟨rfl, _, _, hOc, hpx, rfl⟩
         ·refine Run.skip ?_; refine R.sq ?_; refine R.rg ?_; refine R.mv ?_; refine R.mv ?_; refine R.cm ?_; refine R.mv ?_; refine R.gd (fun zg124 => ?_) (fun zg124 => ?_)
          ·refine R.mv ?_; refine R.gY (zg124) ?_; refine R.mv ?_; refine R.gY (zg124) ?_; refine R.cm ?_; refine R.pT (zg124) ?_; refine R.nl ?_; refine R.hs (e' := [(0, _), (3, _), (4, _), (18, _), (24, _), (213, _)]) ?_; refine R.cd (fun zc125 => ?_) (fun zc125 => ?_)
           ·
            have hsm : mid < mid + m - s ∧ mid + m - s < b := by simp_all
            refine R.rg ?_; refine R.mv ?_; refine R.mv ?_; refine R.mv ?_; refine R.mv ?_; refine R.mv ?_; refine R.ca Tryz.call139 (ih ((b - mid).toNat) (by omega) mid (mid + m - s) b rfl (by omega) (by omega) (by omega) (by omega) (by omega) hOc) ?_; rintro _ _ _ ⟨rfl, zs', q', hO', hp', rfl⟩
            have hOc := hO'
            have hpx := hp'.trans hpx
            have hlx := hpx.length_eq
            refine R.nl ?_; refine R.hs (e' := []) ?_
            first
              | exact R.rk (u := .tuple #[]) .nil 0 ⟨rfl, ws, q1, hOw, hpw, rfl⟩
              | exact R.fn (u := .tuple #[]) .nil 0 ⟨rfl, _, _, hOc, hpx, rfl⟩
           ·refine Run.skip ?_
            first
              | exact R.rk (u := .tuple #[]) .nil 0 ⟨rfl, ws, q1, hOw, hpw, rfl⟩
              | exact R.fn (u := .tuple #[]) .nil 0 ⟨rfl, _, _, hOc, hpx, rfl⟩
          ·refine R.gF (zg124) ?_; refine R.gF (zg124) ?_; refine R.pF (zg124) ?_; refine R.nl ?_; refine R.hs (e' := [(0, _), (3, _), (4, _), (18, _), (24, _), (213, _)]) ?_; refine R.cF (rfl) ?_; refine Run.skip ?_
           first
             | exact R.rk (u := .tuple #[]) .nil 0 ⟨rfl, ws, q1, hOw, hpw, rfl⟩
             | exact R.fn (u := .tuple #[]) .nil 0 ⟨rfl, _, _, hOc, hpx, rfl⟩
        ·refine R.gF (zg120) ?_; refine R.gF (zg120) ?_; refine R.pF (zg120) ?_; refine R.nl ?_; refine R.hs (e' := [(0, _), (1, _), (3, _), (4, _), (18, _), (20, _), (24, _), (199, _)]) ?_; refine R.cF (rfl) ?_; refine Run.skip ?_; refine R.sq ?_; refine R.rg ?_; refine R.mv ?_; refine R.mv ?_; refine R.cm ?_; refine R.mv ?_; refine R.gd (fun zg126 => ?_) (fun zg126 => ?_)
         ·refine R.mv ?_; refine R.gY (zg126) ?_; refine R.mv ?_; refine R.gY (zg126) ?_; refine R.cm ?_; refine R.pT (zg126) ?_; refine R.nl ?_; refine R.hs (e' := [(0, _), (3, _), (4, _), (18, _), (24, _), (213, _)]) ?_; refine R.cd (fun zc127 => ?_) (fun zc127 => ?_)
          ·
           have hsm : mid < mid + m - s ∧ mid + m - s < b := by simp_all
           refine R.rg ?_; refine R.mv ?_; refine R.mv ?_; refine R.mv ?_; refine R.mv ?_; refine R.mv ?_; refine R.ca Tryz.call139 (ih ((b - mid).toNat) (by omega) mid (mid + m - s) b rfl (by omega) (by omega) (by omega) (by omega) (by omega) hOc) ?_; rintro _ _ _ ⟨rfl, zs', q', hO', hp', rfl⟩
           have hOc := hO'
           have hpx := hp'.trans hpx
           have hlx := hpx.length_eq
           refine R.nl ?_; refine R.hs (e' := []) ?_
           first
             | exact R.rk (u := .tuple #[]) .nil 0 ⟨rfl, ws, q1, hOw, hpw, rfl⟩
             | exact R.fn (u := .tuple #[]) .nil 0 ⟨rfl, _, _, hOc, hpx, rfl⟩
          ·refine Run.skip ?_
           first
             | exact R.rk (u := .tuple #[]) .nil 0 ⟨rfl, ws, q1, hOw, hpw, rfl⟩
             | exact R.fn (u := .tuple #[]) .nil 0 ⟨rfl, _, _, hOc, hpx, rfl⟩
         ·refine R.gF (zg126) ?_; refine R.gF (zg126) ?_; refine R.pF (zg126) ?_; refine R.nl ?_; refine R.hs (e' := [(0, _), (3, _), (4, _), (18, _), (24, _), (213, _)]) ?_; refine R.cF (rfl) ?_; refine Run.skip ?_
          first
            | exact R.rk (u := .tuple #[]) .nil 0 ⟨rfl, ws, q1, hOw, hpw, rfl⟩
            | exact R.fn (u := .tuple #[]) .nil 0 ⟨rfl, _, _, hOc, hpx, rfl⟩
       ·refine Run.skip ?_; refine R.sq ?_; refine R.sq ?_; refine R.rg ?_; refine R.mv ?_; refine R.mv ?_; refine R.cm ?_; refine R.mv ?_; refine R.gd (fun zg128 => ?_) (fun zg128 => ?_)
        ·refine R.mv ?_; refine R.gY (zg128) ?_; refine R.mv ?_; refine R.gY (zg128) ?_; refine R.cm ?_; refine R.pT (zg128) ?_; refine R.nl ?_; refine R.hs (e' := [(0, _), (1, _), (3, _), (4, _), (18, _), (20, _), (24, _), (199, _)]) ?_; refine R.cd (fun zc129 => ?_) (fun zc129 => ?_)
         ·
          have hsm : a < s ∧ s < mid := by simp_all
          refine R.rg ?_; refine R.mv ?_; refine R.mv ?_; refine R.mv ?_; refine R.mv ?_; refine R.mv ?_; refine R.ca Tryz.call139 (ih ((mid - a).toNat) (by omega) a s mid rfl (by omega) (by omega) (by omega) (by omega) (by omega) hOc) ?_; rintro _ _ _ ⟨rfl, zs', q', hO', hp', rfl⟩
          have hOc := hO'
          have hpx := hp'.trans hpx
          have hlx := hpx.length_eq
          refine R.nl ?_; refine R.hs (e' := [(0, _), (3, _), (4, _), (18, _), (24, _)]) ?_; refine R.sq ?_; refine R.rg ?_; refine R.mv ?_; refine R.mv ?_; refine R.cm ?_; refine R.mv ?_; refine R.gd (fun zg130 => ?_) (fun zg130 => ?_)
          ·refine R.mv ?_; refine R.gY (zg130) ?_; refine R.mv ?_; refine R.gY (zg130) ?_; refine R.cm ?_; refine R.pT (zg130) ?_; refine R.nl ?_; refine R.hs (e' := [(0, _), (3, _), (4, _), (18, _), (24, _), (213, _)]) ?_; refine R.cd (fun zc131 => ?_) (fun zc131 => ?_)
           ·
            have hsm : mid < mid + m - s ∧ mid + m - s < b := by simp_all
            refine R.rg ?_; refine R.mv ?_; refine R.mv ?_; refine R.mv ?_; refine R.mv ?_; refine R.mv ?_; refine R.ca Tryz.call139 (ih ((b - mid).toNat) (by omega) mid (mid + m - s) b rfl (by omega) (by omega) (by omega) (by omega) (by omega) hOc) ?_; rintro _ _ _ ⟨rfl, zs', q', hO', hp', rfl⟩
            have hOc := hO'
            have hpx := hp'.trans hpx
            have hlx := hpx.length_eq
            refine R.nl ?_; refine R.hs (e' := []) ?_
            first
              | exact R.rk (u := .tuple #[]) .nil 0 ⟨rfl, ws, q1, hOw, hpw, rfl⟩
              | exact R.fn (u := .tuple #[]) .nil 0 ⟨rfl, _, _, hOc, hpx, rfl⟩
           ·refine Run.skip ?_
            first
              | exact R.rk (u := .tuple #[]) .nil 0 ⟨rfl, ws, q1, hOw, hpw, rfl⟩
              | exact R.fn (u := .tuple #[]) .nil 0 ⟨rfl, _, _, hOc, hpx, rfl⟩
          ·refine R.gF (zg130) ?_; refine R.gF (zg130) ?_; refine R.pF (zg130) ?_; refine R.nl ?_; refine R.hs (e' := [(0, _), (3, _), (4, _), (18, _), (24, _), (213, _)]) ?_; refine R.cF (rfl) ?_; refine Run.skip ?_
           first
             | exact R.rk (u := .tuple #[]) .nil 0 ⟨rfl, ws, q1, hOw, hpw, rfl⟩
             | exact R.fn (u := .tuple #[]) .nil 0 ⟨rfl, _, _, hOc, hpx, rfl⟩
         ·refine Run.skip ?_; refine R.sq ?_; refine R.rg ?_; refine R.mv ?_; refine R.mv ?_; refine R.cm ?_; refine R.mv ?_; refine R.gd (fun zg132 => ?_) (fun zg132 => ?_)
          ·refine R.mv ?_; refine R.gY (zg132) ?_; refine R.mv ?_; refine R.gY (zg132) ?_; refine R.cm ?_; refine R.pT (zg132) ?_; refine R.nl ?_; refine R.hs (e' := [(0, _), (3, _), (4, _), (18, _), (24, _), (213, _)]) ?_; refine R.cd (fun zc133 => ?_) (fun zc133 => ?_)
           ·
            have hsm : mid < mid + m - s ∧ mid + m - s < b := by simp_all
            refine R.rg ?_; refine R.mv ?_; refine R.mv ?_; refine R.mv ?_; refine R.mv ?_; refine R.mv ?_; refine R.ca Tryz.call139 (ih ((b - mid).toNat) (by omega) mid (mid + m - s) b rfl (by omega) (by omega) (by omega) (by omega) (by omega) hOc) ?_; rintro _ _ _ ⟨rfl, zs', q', hO', hp', rfl⟩
            have hOc := hO'
            have hpx := hp'.trans hpx
            have hlx := hpx.length_eq
            refine R.nl ?_; refine R.hs (e' := []) ?_
            first
              | exact R.rk (u := .tuple #[]) .nil 0 ⟨rfl, ws, q1, hOw, hpw, rfl⟩
              | exact R.fn (u := .tuple #[]) .nil 0 ⟨rfl, _, _, hOc, hpx, rfl⟩
           ·refine Run.skip ?_
            first
              | exact R.rk (u := .tuple #[]) .nil 0 ⟨rfl, ws, q1, hOw, hpw, rfl⟩
              | exact R.fn (u := .tuple #[]) .nil 0 ⟨rfl, _, _, hOc, hpx, rfl⟩
          ·refine R.gF (zg132) ?_; refine R.gF (zg132) ?_; refine R.pF (zg132) ?_; refine R.nl ?_; refine R.hs (e' := [(0, _), (3, _), (4, _), (18, _), (24, _), (213, _)]) ?_; refine R.cF (rfl) ?_; refine Run.skip ?_
           first
             | exact R.rk (u := .tuple #[]) .nil 0 ⟨rfl, ws, q1, hOw, hpw, rfl⟩
             | exact R.fn (u := .tuple #[]) .nil 0 ⟨rfl, _, _, hOc, hpx, rfl⟩
        ·refine R.gF (zg128) ?_; refine R.gF (zg128) ?_; refine R.pF (zg128) ?_; refine R.nl ?_; refine R.hs (e' := [(0, _), (1, _), (3, _), (4, _), (18, _), (20, _), (24, _), (199, _)]) ?_; refine R.cF (rfl) ?_; refine Run.skip ?_; refine R.sq ?_; refine R.rg ?_; refine R.mv ?_; refine R.mv ?_; refine R.cm ?_; refine R.mv ?_; refine R.gd (fun zg134 => ?_) (fun zg134 => ?_)
         ·refine R.mv ?_; refine R.gY (zg134) ?_; refine R.mv ?_; refine R.gY (zg134) ?_; refine R.cm ?_; refine R.pT (zg134) ?_; refine R.nl ?_; refine R.hs (e' := [(0, _), (3, _), (4, _), (18, _), (24, _), (213, _)]) ?_; refine R.cd (fun zc135 => ?_) (fun zc135 => ?_)
          ·
           have hsm : mid < mid + m - s ∧ mid + m - s < b := by simp_all
           refine R.rg ?_; refine R.mv ?_; refine R.mv ?_; refine R.mv ?_; refine R.mv ?_; refine R.mv ?_; refine R.ca Tryz.call139 (ih ((b - mid).toNat) (by omega) mid (mid + m - s) b rfl (by omega) (by omega) (by omega) (by omega) (by omega) hOc) ?_; rintro _ _ _ ⟨rfl, zs', q', hO', hp', rfl⟩
           have hOc := hO'
           have hpx := hp'.trans hpx
           have hlx := hpx.length_eq
           refine R.nl ?_; refine R.hs (e' := []) ?_
           first
             | exact R.rk (u := .tuple #[]) .nil 0 ⟨rfl, ws, q1, hOw, hpw, rfl⟩
             | exact R.fn (u := .tuple #[]) .nil 0 ⟨rfl, _, _, hOc, hpx, rfl⟩
          ·refine Run.skip ?_
           first
             | exact R.rk (u := .tuple #[]) .nil 0 ⟨rfl, ws, q1, hOw, hpw, rfl⟩
             | exact R.fn (u := .tuple #[]) .nil 0 ⟨rfl, _, _, hOc, hpx, rfl⟩
         ·refine R.gF (zg134) ?_; refine R.gF (zg134) ?_; refine R.pF (zg134) ?_; refine R.nl ?_; refine R.hs (e' := [(0, _), (3, _), (4, _), (18, _), (24, _), (213, _)]) ?_; refine R.cF (rfl) ?_; refine Run.skip ?_
          first
            | exact R.rk (u := .tuple #[]) .nil 0 ⟨rfl, ws, q1, hOw, hpw, rfl⟩
            | exact R.fn (u := .tuple #[]) .nil 0 ⟨rfl, _, _, hOc, hpx, rfl⟩
      ·refine R.gF (zg118) ?_; refine R.gF (zg118) ?_; refine R.pF (zg118) ?_; refine R.nl ?_; refine R.hs (e' := [(0, _), (1, _), (2, _), (3, _), (4, _), (18, _), (20, _), (24, _), (185, _)]) ?_; refine R.cF (rfl) ?_; refine Run.skip ?_; refine R.sq ?_; refine R.sq ?_; refine R.rg ?_; refine R.mv ?_; refine R.mv ?_; refine R.cm ?_; refine R.mv ?_; refine R.gd (fun zg136 => ?_) (fun zg136 => ?_)
       ·refine R.mv ?_; refine R.gY (zg136) ?_; refine R.mv ?_; refine R.gY (zg136) ?_; refine R.cm ?_; refine R.pT (zg136) ?_; refine R.nl ?_; refine R.hs (e' := [(0, _), (1, _), (3, _), (4, _), (18, _), (20, _), (24, _), (199, _)]) ?_; refine R.cd (fun zc137 => ?_) (fun zc137 => ?_)
        ·
         have hsm : a < s ∧ s < mid := by simp_all
         refine R.rg ?_; refine R.mv ?_; refine R.mv ?_; refine R.mv ?_; refine R.mv ?_; refine R.mv ?_; refine R.ca Tryz.call139 (ih ((mid - a).toNat) (by omega) a s mid rfl (by omega) (by omega) (by omega) (by omega) (by omega) hOc) ?_; rintro _ _ _ ⟨rfl, zs', q', hO', hp', rfl⟩
         have hOc := hO'
         have hpx := hp'.trans hpx
         have hlx := hpx.length_eq
         refine R.nl ?_; refine R.hs (e' := [(0, _), (3, _), (4, _), (18, _), (24, _)]) ?_; refine R.sq ?_; refine R.rg ?_; refine R.mv ?_; refine R.mv ?_; refine R.cm ?_; refine R.mv ?_; refine R.gd (fun zg138 => ?_) (fun zg138 => ?_)
         ·refine R.mv ?_; refine R.gY (zg138) ?_; refine R.mv ?_; refine R.gY (zg138) ?_; refine R.cm ?_; refine R.pT (zg138) ?_; refine R.nl ?_; refine R.hs (e' := [(0, _), (3, _), (4, _), (18, _), (24, _), (213, _)]) ?_; refine R.cd (fun zc139 => ?_) (fun zc139 => ?_)
          ·
           have hsm : mid < mid + m - s ∧ mid + m - s < b := by simp_all
           refine R.rg ?_; refine R.mv ?_; refine R.mv ?_; refine R.mv ?_; refine R.mv ?_; refine R.mv ?_; refine R.ca Tryz.call139 (ih ((b - mid).toNat) (by omega) mid (mid + m - s) b rfl (by omega) (by omega) (by omega) (by omega) (by omega) hOc) ?_; rintro _ _ _ ⟨rfl, zs', q', hO', hp', rfl⟩
           have hOc := hO'
           have hpx := hp'.trans hpx
           have hlx := hpx.length_eq
           refine R.nl ?_; refine R.hs (e' := []) ?_
           first
             | exact R.rk (u := .tuple #[]) .nil 0 ⟨rfl, ws, q1, hOw, hpw, rfl⟩
             | exact R.fn (u := .tuple #[]) .nil 0 ⟨rfl, _, _, hOc, hpx, rfl⟩
          ·refine Run.skip ?_
           first
             | exact R.rk (u := .tuple #[]) .nil 0 ⟨rfl, ws, q1, hOw, hpw, rfl⟩
             | exact R.fn (u := .tuple #[]) .nil 0 ⟨rfl, _, _, hOc, hpx, rfl⟩
         ·refine R.gF (zg138) ?_; refine R.gF (zg138) ?_; refine R.pF (zg138) ?_; refine R.nl ?_; refine R.hs (e' := [(0, _), (3, _), (4, _), (18, _), (24, _), (213, _)]) ?_; refine R.cF (rfl) ?_; refine Run.skip ?_
          first
            | exact R.rk (u := .tuple #[]) .nil 0 ⟨rfl, ws, q1, hOw, hpw, rfl⟩
            | exact R.fn (u := .tuple #[]) .nil 0 ⟨rfl, _, _, hOc, hpx, rfl⟩
        ·refine Run.skip ?_; refine R.sq ?_; refine R.rg ?_; refine R.mv ?_; refine R.mv ?_; refine R.cm ?_; refine R.mv ?_; refine R.gd (fun zg140 => ?_) (fun zg140 => ?_)
         ·refine R.mv ?_; refine R.gY (zg140) ?_; refine R.mv ?_; refine R.gY (zg140) ?_; refine R.cm ?_; refine R.pT (zg140) ?_; refine R.nl ?_; refine R.hs (e' := [(0, _), (3, _), (4, _), (18, _), (24, _), (213, _)]) ?_; refine R.cd (fun zc141 => ?_) (fun zc141 => ?_)
          ·
           have hsm : mid < mid + m - s ∧ mid + m - s < b := by simp_all
           refine R.rg ?_; refine R.mv ?_; refine R.mv ?_; refine R.mv ?_; refine R.mv ?_; refine R.mv ?_; refine R.ca Tryz.call139 (ih ((b - mid).toNat) (by omega) mid (mid + m - s) b rfl (by omega) (by omega) (by omega) (by omega) (by omega) hOc) ?_; rintro _ _ _ ⟨rfl, zs', q', hO', hp', rfl⟩
           have hOc := hO'
           have hpx := hp'.trans hpx
           have hlx := hpx.length_eq
           refine R.nl ?_; refine R.hs (e' := []) ?_
           first
             | exact R.rk (u := .tuple #[]) .nil 0 ⟨rfl, ws, q1, hOw, hpw, rfl⟩
             | exact R.fn (u := .tuple #[]) .nil 0 ⟨rfl, _, _, hOc, hpx, rfl⟩
          ·refine Run.skip ?_
           first
             | exact R.rk (u := .tuple #[]) .nil 0 ⟨rfl, ws, q1, hOw, hpw, rfl⟩
             | exact R.fn (u := .tuple #[]) .nil 0 ⟨rfl, _, _, hOc, hpx, rfl⟩
         ·refine R.gF (zg140) ?_; refine R.gF (zg140) ?_; refine R.pF (zg140) ?_; refine R.nl ?_; refine R.hs (e' := [(0, _), (3, _), (4, _), (18, _), (24, _), (213, _)]) ?_; refine R.cF (rfl) ?_; refine Run.skip ?_
          first
            | exact R.rk (u := .tuple #[]) .nil 0 ⟨rfl, ws, q1, hOw, hpw, rfl⟩
            | exact R.fn (u := .tuple #[]) .nil 0 ⟨rfl, _, _, hOc, hpx, rfl⟩
       ·refine R.gF (zg136) ?_; refine R.gF (zg136) ?_; refine R.pF (zg136) ?_; refine R.nl ?_; refine R.hs (e' := [(0, _), (1, _), (3, _), (4, _), (18, _), (20, _), (24, _), (199, _)]) ?_; refine R.cF (rfl) ?_; refine Run.skip ?_; refine R.sq ?_; refine R.rg ?_; refine R.mv ?_; refine R.mv ?_; refine R.cm ?_; refine R.mv ?_; refine R.gd (fun zg142 => ?_) (fun zg142 => ?_)
        ·refine R.mv ?_; refine R.gY (zg142) ?_; refine R.mv ?_; refine R.gY (zg142) ?_; refine R.cm ?_; refine R.pT (zg142) ?_; refine R.nl ?_; refine R.hs (e' := [(0, _), (3, _), (4, _), (18, _), (24, _), (213, _)]) ?_; refine R.cd (fun zc143 => ?_) (fun zc143 => ?_)
         ·
          have hsm : mid < mid + m - s ∧ mid + m - s < b := by simp_all
          refine R.rg ?_; refine R.mv ?_; refine R.mv ?_; refine R.mv ?_; refine R.mv ?_; refine R.mv ?_; refine R.ca Tryz.call139 (ih ((b - mid).toNat) (by omega) mid (mid + m - s) b rfl (by omega) (by omega) (by omega) (by omega) (by omega) hOc) ?_; rintro _ _ _ ⟨rfl, zs', q', hO', hp', rfl⟩
          have hOc := hO'
          have hpx := hp'.trans hpx
          have hlx := hpx.length_eq
          refine R.nl ?_; refine R.hs (e' := []) ?_
          first
            | exact R.rk (u := .tuple #[]) .nil 0 ⟨rfl, ws, q1, hOw, hpw, rfl⟩
            | exact R.fn (u := .tuple #[]) .nil 0 ⟨rfl, _, _, hOc, hpx, rfl⟩
         ·refine Run.skip ?_
          first
            | exact R.rk (u := .tuple #[]) .nil 0 ⟨rfl, ws, q1, hOw, hpw, rfl⟩
            | exact R.fn (u := .tuple #[]) .nil 0 ⟨rfl, _, _, hOc, hpx, rfl⟩
        ·refine R.gF (zg142) ?_; refine R.gF (zg142) ?_; refine R.pF (zg142) ?_; refine R.nl ?_; refine R.hs (e' := [(0, _), (3, _), (4, _), (18, _), (24, _), (213, _)]) ?_; refine R.cF (rfl) ?_; refine Run.skip ?_
         first
           | exact R.rk (u := .tuple #[]) .nil 0 ⟨rfl, ws, q1, hOw, hpw, rfl⟩
           | exact R.fn (u := .tuple #[]) .nil 0 ⟨rfl, _, _, hOc, hpx, rfl⟩
theorem stable_spec {g : Gl} {D : Dict} {q Z : MList} {v : Value} {xs : List Vw} (hml : xs.length ≤ 1000000) (ho : VR v xs q) :
    Spec Tryz.prog g 117 [v, .int .i64 (xs.length : Int), .func (.func 92) #[] #[]] D (q ++ Z) (Kept q Z D v xs) := by
  refine Spec.enter Tryz.func117 rfl Tryz.ntmps117 rfl ?_; refine R.sq ?_; refine R.rg ?_; refine R.as ?_; refine R.nl ?_; refine R.hs (e' := [(0, _), (1, _), (2, _), (6, _)]) ?_; refine R.sq ?_; refine R.rg ?_; refine R.mv ?_; refine R.as ?_; refine R.as ?_; refine R.nl ?_; refine R.hs (e' := [(0, _), (1, _), (2, _), (6, _), (7, _), (8, _)]) ?_; refine R.sq ?_; refine Run.block ?_; refine Run.loop (ι := Int × Int × List Vw × MList) [(0, _), (1, _), (2, _), (6, _)] (fun p => [(7, .int .i64 p.1), (8, .int .i64 p.2.1)]) (fun _ => D) (fun p => p.2.2.2 ++ Z) (fun p => 0 ≤ p.1 ∧ p.2.1 = p.1 + 20 ∧ p.1 ≤ xs.length ∧ p.2.2.1.Perm xs ∧ VR v p.2.2.1 p.2.2.2) (fun p => (xs.length - p.1).toNat) ((0, 20, xs, q)) (by repeat (first | exact trivial | refine ⟨rfl, ?_⟩)) ?h0 (by repeat (first | exact trivial | refine ⟨rfl, ?_⟩)) (fun w hs => hs) ?_
  case h0 => exact ⟨by simp, by simp, by simp, List.Perm.refl _, ho⟩
  rintro ⟨a, b, zs, q0⟩ ⟨ha0, hab, han, hpx, hOc⟩
  simp only at ha0 hab han hpx hOc
  have hlx := hpx.length_eq
  refine R.sq ?_; refine R.sq ?_; refine R.rg ?_; refine R.mv ?_; refine R.mv ?_; refine R.cm ?_; refine R.nl ?_; refine R.hs (e' := [(0, _), (1, _), (2, _), (6, _), (7, _), (8, _), (13, _)]) ?_; refine R.cd (fun zc1 => ?_) (fun zc1 => ?_)
  ·
   have hbn : b ≤ xs.length := by simpa using zc1
   refine Run.skip ?_; refine Run.block ?_; refine R.sq ?_; refine R.rg ?_; refine R.mv ?_; refine R.mv ?_; refine R.mv ?_; refine R.mv ?_; refine R.ca Tryz.call138 (insSort_spec a b (by omega) (by omega) (by omega) (by omega) hOc) ?_; rintro _ _ _ ⟨rfl, zs', q', hO', hp', rfl⟩
   have hOc := hO'
   have hpx := hp'.trans hpx
   have hlx := hpx.length_eq
   refine R.nl ?_; refine R.hs (e' := [(0, _), (1, _), (2, _), (6, _), (8, _)]) ?_; refine R.sq ?_; refine R.rg ?_; refine R.mv ?_; refine R.as ?_; refine R.nl ?_; refine R.hs (e' := [(0, _), (1, _), (2, _), (6, _), (7, _), (8, _)]) ?_; refine R.rg ?_; refine R.mv ?_; refine R.mv ?_; refine R.ad ?_; refine R.as ?_; refine R.nl ?_; refine R.hs (e' := [(0, _), (1, _), (2, _), (6, _), (7, _), (8, _)]) ?_; refine Run.endBlock ?_; exact Run.again (b, b + 20, zs', q') ⟨by simp <;> omega, by simp, by simp <;> omega, hpx, hOc⟩ (by simp <;> omega) (by refine ⟨rfl, rfl, ?_⟩; repeat (first | exact trivial | refine ⟨rfl, ?_⟩)) (fun w hs => hs)
  ·refine Run.exit rfl ?_; refine R.sq ?_; refine R.rg ?_; refine R.mv ?_; refine R.mv ?_; refine R.mv ?_; refine R.mv ?_; refine R.ca Tryz.call138 (insSort_spec a xs.length (by omega) (by omega) (by omega) (by omega) hOc) ?_; rintro _ _ _ ⟨rfl, zs', q', hO', hp', rfl⟩
   have hOc := hO'
   have hpx := hp'.trans hpx
   have hlx := hpx.length_eq
   refine R.nl ?_; refine R.hs (e' := [(0, _), (1, _), (2, _), (6, _)]) ?_; refine Run.block ?_; refine Run.loop (ι := Int × List Vw × MList) [(0, _), (1, _), (2, _)] (fun p => [(6, .int .i64 p.1)]) (fun _ => D) (fun p => p.2.2 ++ Z) (fun p => 20 ≤ p.1 ∧ p.1 ≤ 4000000 ∧ p.2.1.Perm xs ∧ VR v p.2.1 p.2.2) (fun p => (4000000 - p.1).toNat) ((20, zs', q')) (by repeat (first | exact trivial | refine ⟨rfl, ?_⟩)) ?h0 (by repeat (first | exact trivial | refine ⟨rfl, ?_⟩)) (fun w hs => hs) ?_
   case h0 => exact ⟨by simp, by simp, hpx, hOc⟩
   rintro ⟨bs, zs, q0⟩ ⟨hb0, hb1, hpx, hOc⟩
   simp only at hb0 hb1 hpx hOc
   have hlx := hpx.length_eq
   refine R.sq ?_; refine R.sq ?_; refine R.rg ?_; refine R.mv ?_; refine R.mv ?_; refine R.cm ?_; refine R.nl ?_; refine R.hs (e' := [(0, _), (1, _), (2, _), (6, _), (30, _)]) ?_; refine R.cd (fun zc2 => ?_) (fun zc2 => ?_)
   ·
    have hbs : bs < xs.length := by simpa using zc2
    refine Run.skip ?_; refine Run.block ?_; refine R.sq ?_; refine R.rg ?_; refine R.mv ?_; refine R.ml ?_; refine R.as ?_; refine R.as ?_; refine R.nl ?_; refine R.hs (e' := [(0, _), (1, _), (2, _), (6, _), (7, _), (8, _)]) ?_; refine R.sq ?_; refine Run.block ?_; refine Run.loop (ι := Int × Int × List Vw × MList) [(0, _), (1, _), (2, _), (6, _)] (fun p => [(7, .int .i64 p.1), (8, .int .i64 p.2.1)]) (fun _ => D) (fun p => p.2.2.2 ++ Z) (fun p => 0 ≤ p.1 ∧ p.2.1 = p.1 + 2 * bs ∧ p.1 ≤ xs.length ∧ p.2.2.1.Perm xs ∧ VR v p.2.2.1 p.2.2.2) (fun p => (xs.length - p.1).toNat) ((0, 2 * bs, zs, q0)) (by repeat (first | exact trivial | refine ⟨rfl, ?_⟩)) ?h0 (by repeat (first | exact trivial | refine ⟨rfl, ?_⟩)) (fun w hs => hs) ?_
    case h0 => exact ⟨by simp, by simp, by simp, hpx, hOc⟩
    rintro ⟨a, b, zs, q0⟩ ⟨ha0, hab, han, hpx, hOc⟩
    simp only at ha0 hab han hpx hOc
    have hlx := hpx.length_eq
    refine R.sq ?_; refine R.sq ?_; refine R.rg ?_; refine R.mv ?_; refine R.mv ?_; refine R.cm ?_; refine R.nl ?_; refine R.hs (e' := [(0, _), (1, _), (2, _), (6, _), (7, _), (8, _), (35, _)]) ?_; refine R.cd (fun zc3 => ?_) (fun zc3 => ?_)
    ·
     have hbn : b ≤ xs.length := by simpa using zc3
     refine Run.skip ?_; refine Run.block ?_; refine R.sq ?_; refine R.rg ?_; refine R.mv ?_; refine R.mv ?_; refine R.mv ?_; refine R.mv ?_; refine R.ad ?_; refine R.mv ?_; refine R.mv ?_; refine R.ca Tryz.call139 (symMerge_spec _ a (a + bs) b rfl (by omega) (by omega) (by omega) (by omega) (by omega) hOc) ?_; rintro _ _ _ ⟨rfl, zs', q', hO', hp', rfl⟩
     have hOc := hO'
     have hpx := hp'.trans hpx
     have hlx := hpx.length_eq
     refine R.nl ?_; refine R.hs (e' := [(0, _), (1, _), (2, _), (6, _), (8, _)]) ?_; refine R.sq ?_; refine R.rg ?_; refine R.mv ?_; refine R.as ?_; refine R.nl ?_; refine R.hs (e' := [(0, _), (1, _), (2, _), (6, _), (7, _), (8, _)]) ?_; refine R.rg ?_; refine R.mv ?_; refine R.mv ?_; refine R.ml ?_; refine R.ad ?_; refine R.as ?_; refine R.nl ?_; refine R.hs (e' := [(0, _), (1, _), (2, _), (6, _), (7, _), (8, _)]) ?_; refine Run.endBlock ?_; exact Run.again (b, b + 2 * bs, zs', q') ⟨by simp <;> omega, by simp, by simp <;> omega, hpx, hOc⟩ (by simp <;> omega) (by refine ⟨rfl, rfl, ?_⟩; repeat (first | exact trivial | refine ⟨rfl, ?_⟩)) (fun w hs => hs)
    ·refine Run.exit rfl ?_; refine R.sq ?_; refine R.sq ?_; refine R.rg ?_; refine R.mv ?_; refine R.mv ?_; refine R.ad ?_; refine R.as ?_; refine R.nl ?_; refine R.hs (e' := [(0, _), (1, _), (2, _), (6, _), (7, _), (9, _)]) ?_; refine R.sq ?_; refine R.rg ?_; refine R.mv ?_; refine R.mv ?_; refine R.cm ?_; refine R.nl ?_; refine R.hs (e' := [(0, _), (1, _), (2, _), (6, _), (7, _), (9, _), (54, _)]) ?_; refine R.cd (fun zc4 => ?_) (fun zc4 => ?_)
     ·
      have hbn : a + bs < xs.length := by simpa using zc4
      refine R.rg ?_; refine R.mv ?_; refine R.mv ?_; refine R.mv ?_; refine R.mv ?_; refine R.mv ?_; refine R.ca Tryz.call139 (symMerge_spec _ a (a + bs) xs.length rfl (by omega) (by omega) (by omega) (by omega) (by omega) hOc) ?_; rintro _ _ _ ⟨rfl, zs', q', hO', hp', rfl⟩
      have hOc := hO'
      have hpx := hp'.trans hpx
      have hlx := hpx.length_eq
      refine R.nl ?_; refine R.hs (e' := [(0, _), (1, _), (2, _), (6, _)]) ?_; refine R.rg ?_; refine R.mv ?_; refine R.ml ?_; refine R.as ?_; refine R.nl ?_; refine R.hs (e' := [(0, _), (1, _), (2, _), (6, _)]) ?_; refine Run.endBlock ?_; exact Run.again (bs * 2, _, _) ⟨by simp <;> omega, by simp <;> omega, hpx, hOc⟩ (by simp <;> omega) (by repeat (first | exact trivial | refine ⟨rfl, ?_⟩)) (fun w hs => hs)
     ·refine Run.skip ?_; refine R.rg ?_; refine R.mv ?_; refine R.ml ?_; refine R.as ?_; refine R.nl ?_; refine R.hs (e' := [(0, _), (1, _), (2, _), (6, _)]) ?_; refine Run.endBlock ?_; exact Run.again (bs * 2, _, _) ⟨by simp <;> omega, by simp <;> omega, hpx, hOc⟩ (by simp <;> omega) (by repeat (first | exact trivial | refine ⟨rfl, ?_⟩)) (fun w hs => hs)
   ·refine Run.exit rfl ?_; exact R.fn (u := .tuple #[]) .nil 0 ⟨rfl, _, _, hOc, hpx, rfl⟩
theorem sortStable_spec {g : Gl} {D : Dict} {q Z : MList} {v : Value} {xs : List Vw} (hml : xs.length ≤ 1000000) (ho : VR v xs q) :
    Spec Tryz.prog g 91 [v, .func (.func 92) #[] #[]] D (q ++ Z) (Kept q Z D v xs) := by
  obtain ⟨A, c, rfl, _⟩ := ho.form
  refine Spec.enter Tryz.func91 rfl Tryz.ntmps91 rfl ?_; refine R.rg ?_; refine R.mv ?_; refine R.mv ?_; refine R.ln Tryz.runUnderlying99 ?_; refine R.mv ?_; refine R.ca Tryz.call117 (stable_spec hml ho) ?_; rintro _ _ _ ⟨rfl, zs', q', hO', hp', rfl⟩; refine R.nl ?_; refine R.hs (e' := []) ?_; exact R.fn (u := .tuple #[]) .nil 0 ⟨rfl, _, _, hO', hp', rfl⟩
end Go.Proofs.YtgdpjpmjcpieiaaGreat

/- Which links go down, which up: the program's answer is some order of the ids. No condition. -/
namespace Go.Proofs.YtgdpjpmjcpieiaaGreat
open Go
set_option linter.unusedVariables false
set_option linter.unusedSimpArgs false
set_option maxRecDepth 100000
set_option maxHeartbeats 0
abbrev IR (v : Value) (zs : List Int) (q : MList) : Prop := OL 1 (fun x => [Value.int .i64 x]) 3 v zs q
def someV (own : Ht) (dir : Int) (xs : List Vw) : List Vw := xs.filter (fun x => decide (dirH own x.h = dir))
theorem of_spec {g : Gl} {D : Dict} {M : MList} {a : Value} {xs : List Vw} (own : Ht) (dir : Int) (hn : xs.length ≤ 1000) (ha : Vws D a xs) :
    Gets Tryz.prog g 50 [a, .agg (Ht.cells own).toArray, .int .i64 dir] D M (fun v D => ∃ zs : List Vw, zs.Perm (someV own dir xs) ∧ Ints D v (zs.map (·.id))) := by
  have hla := ha.form.choose_spec.choose_spec.2.2
  refine Gets.enter Tryz.func50 rfl Tryz.ntmps50 ?_; refine R.sq ?_; refine R.rg ?_; refine R.bxA (fun zb1 hzb1 => ?_); refine R.as ?_; refine R.nl ?_; refine R.hs (e' := [(0, _), (2, _), (4, _)]) ?_; refine R.sq ?_; refine R.rg ?_; refine R.as ?_; refine R.nl ?_; refine R.hs (e' := [(0, _), (2, _), (4, _), (7, _)]) ?_; refine R.sq ?_; refine R.sq ?_; refine R.rg ?_; refine R.mv ?_; refine R.ll (ha) Tryz.runUnderlying24 ?_; refine R.mv ?_; refine R.nl ?_; refine R.hs (e' := [(2, _), (4, _), (7, _), (13, _), (14, _), (15, _)]) ?_; refine Run.block ?_
  refine Run.loop (ι := Nat × Value × MList) [(2, _), (4, _), (13, _), (14, _)] (fun p => [(15, .int .i64 (p.1 : Int)), (7, p.2.1)]) (fun _ => D) (fun p => p.2.2 ++ ((zb1, .cells (Ht.cells own).toArray 23 (0, 0)) :: M)) (fun p => p.1 ≤ xs.length ∧ VR p.2.1 (someV own dir (xs.take p.1)) p.2.2) (fun p => xs.length - p.1) ((0, .slice none 0 0, [])) (by repeat (first | exact trivial | refine ⟨rfl, ?_⟩)) ?h0 (by repeat (first | exact trivial | refine ⟨rfl, ?_⟩)) (fun w hs => hs) ?_
  case h0 => exact ⟨Nat.zero_le _, OL.nil⟩
  rintro ⟨i, v, q0⟩ ⟨hi, hO⟩
  simp only at hi hO
  refine R.sq ?_; refine R.rg ?_; refine R.cm ?_; refine R.nl ?_; refine R.hs (e' := [(2, _), (4, _), (7, _), (13, _), (14, _), (15, _), (16, _)]) ?_; refine R.sq ?_; refine R.cd (fun zc2 => ?_) (fun zc2 => ?_)
  ·
   have hlt : i < xs.length := by simp at zc2; omega
   obtain ⟨x, hgx⟩ := get_of_lt hlt
   obtain ⟨b1, o1, hI1, hc1⟩ := ha.at Vw.len hgx
   have hlen : (someV own dir (xs.take i)).length ≤ 1000 := Nat.le_trans (List.length_filter_le _ _) (by rw [List.length_take]; omega)
   refine Run.skip ?_; refine R.sq ?_; refine Run.block ?_; refine R.sq ?_; refine R.rg ?_; refine R.ix (hI1) Tryz.runUnderlying24 Tryz.sizeOf72 ?_; refine R.lAD 7 Tryz.isAgg72 Tryz.sizeOf72 ?_; refine R.alA Tryz.zeroValue72 (fun zb3 hzb3 => ?_); refine R.st Tryz.sizeOf72 ?_; refine R.nl ?_; refine R.hs (e' := [(2, _), (4, _), (7, _), (9, _), (13, _), (14, _), (15, _)]) ?_; refine R.sq ?_; refine R.rg ?_; refine R.lA 6 Tryz.isAgg23 Tryz.sizeOf23 ?_ (hc := CsN.mkM (.tail _ (List.mem_append_right _ (.head _))) rfl); refine R.fa Tryz.runUnderlying72 Tryz.sizeOf23 ?_; refine R.lA 6 Tryz.isAgg23 Tryz.sizeOf23 ?_; refine R.cg Tryz.call90 (dir_spec own x.h) ?_; refine R.mv ?_; refine R.cm ?_; refine R.nl ?_; refine R.hs (e' := [(2, _), (4, _), (7, _), (9, _), (13, _), (14, _), (15, _), (24, _)]) ?_; refine R.cd (fun zc4 => ?_) (fun zc4 => ?_)
   ·
    have hd : dirH own x.h = dir := by simpa using zc4
    have hs1 : someV own dir (xs.take (i + 1)) = someV own dir (xs.take i) ++ [x] := by rw [take_succ' hgx]; simp [someV, List.filter_append, hd]
    refine R.rg ?_; refine R.mv ?_; refine R.lA 7 Tryz.isAgg72 Tryz.sizeOf72 ?_; refine R.bs zc101 Tryz.runUnderlying99 Tryz.sizeOf101 Tryz.zeroValue101 (fun zb5 hzb5 => ?_); refine R.ap Tryz.underlying99 info101 (hO) (permQ (a := [_, _])) (Src.lit (List.mem_append_right _ (.head _)) rfl) (by omega) (Vw.ones x) ?_; intro v' q' hO'
    have hO2 : VR v' (someV own dir (xs.take i) ++ [x]) q' := OL.snoc hO' rfl
    refine R.as ?_; refine R.nl ?_; refine R.hs (e' := [(2, _), (4, _), (7, _), (13, _), (14, _), (15, _)]) ?_; refine Run.endBlock ?_; refine R.rg ?_; refine R.ad ?_; refine R.mv ?_; refine R.nl ?_; refine R.hs (e' := [(2, _), (4, _), (7, _), (13, _), (14, _), (15, _)]) ?_
    first | exact Run.again (i + 1, v', q') ⟨by simp <;> omega, by rw [hs1]; exact hO2⟩ (by simp <;> omega) (by refine ⟨rfl, rfl, ?_⟩; repeat (first | exact trivial | refine ⟨rfl, ?_⟩)) (fun w hs => hs.dropMid (a := [_, _])) | exact Run.again (i + 1, v, q0) ⟨by simp <;> omega, by rw [hs1]; exact hO⟩ (by simp <;> omega) (by refine ⟨rfl, rfl, ?_⟩; repeat (first | exact trivial | refine ⟨rfl, ?_⟩)) (fun w hs => hs.drop 1)
   ·
    have hd : ¬ dirH own x.h = dir := by simpa using zc4
    have hs1 : someV own dir (xs.take (i + 1)) = someV own dir (xs.take i) := by rw [take_succ' hgx]; simp [someV, List.filter_append, hd]
    refine Run.skip ?_; refine Run.endBlock ?_; refine R.rg ?_; refine R.ad ?_; refine R.mv ?_; refine R.nl ?_; refine R.hs (e' := [(2, _), (4, _), (7, _), (13, _), (14, _), (15, _)]) ?_
    first | exact Run.again (i + 1, v', q') ⟨by simp <;> omega, by rw [hs1]; exact hO2⟩ (by simp <;> omega) (by refine ⟨rfl, rfl, ?_⟩; repeat (first | exact trivial | refine ⟨rfl, ?_⟩)) (fun w hs => hs.dropMid (a := [_, _])) | exact Run.again (i + 1, v, q0) ⟨by simp <;> omega, by rw [hs1]; exact hO⟩ (by simp <;> omega) (by refine ⟨rfl, rfl, ?_⟩; repeat (first | exact trivial | refine ⟨rfl, ?_⟩)) (fun w hs => hs.drop 1)
  ·
   have hz : xs.take i = xs := by simp at zc2; exact List.take_of_length_le (by omega)
   have hOx : VR v (someV own dir xs) q0 := by rw [hz] at hO; exact hO
   refine Run.exit rfl ?_; refine R.sq ?_; refine R.rg ?_; refine R.mv ?_; refine R.ca Tryz.call91 (sortStable_spec (Nat.le_trans (List.length_filter_le _ _) (Nat.le_trans hn (by decide))) hOx) ?_; rintro _ _ _ ⟨rfl, zs, q1, hO1, hp1, rfl⟩
   obtain ⟨A, c, hvf, hl1⟩ := hO1.form
   subst hvf
   have hzl : zs.length ≤ 1000 := by rw [hp1.length_eq]; exact Nat.le_trans (List.length_filter_le _ _) hn
   refine R.nl ?_; refine R.hs (e' := [(7, _)]) ?_; refine R.sq ?_; refine R.rg ?_; refine R.as ?_; refine R.nl ?_; refine R.hs (e' := [(7, _), (10, _)]) ?_; refine R.sq ?_; refine R.sq ?_; refine R.rg ?_; refine R.mv ?_; refine R.ln Tryz.runUnderlying99 ?_; refine R.mv ?_; refine R.nl ?_; refine R.hs (e' := [(10, _), (32, _), (33, _), (34, _)]) ?_; refine Run.block ?_; refine Run.loop (ι := Nat × Value × MList) [(32, _), (33, _)] (fun p => [(34, .int .i64 (p.1 : Int)), (10, p.2.1)]) (fun _ => D) (fun p => p.2.2 ++ (q1 ++ ((zb1, .cells (Ht.cells own).toArray 23 (0, 0)) :: M))) (fun p => p.1 ≤ zs.length ∧ IR p.2.1 ((zs.take p.1).map (·.id)) p.2.2) (fun p => zs.length - p.1) ((0, .slice none 0 0, [])) (by repeat (first | exact trivial | refine ⟨rfl, ?_⟩)) ?h0 (by repeat (first | exact trivial | refine ⟨rfl, ?_⟩)) (fun w hs => hs) ?_
   case h0 => exact ⟨Nat.zero_le _, OL.nil⟩
   rintro ⟨k, u, q2⟩ ⟨hk, hU⟩
   simp only at hk hU
   refine R.sq ?_; refine R.rg ?_; refine R.cm ?_; refine R.nl ?_; refine R.hs (e' := [(10, _), (32, _), (33, _), (34, _), (35, _)]) ?_; refine R.sq ?_; refine R.cd (fun zc6 => ?_) (fun zc6 => ?_)
   ·
    have hltk : k < zs.length := by simp at zc6; omega
    obtain ⟨y, hgy⟩ := get_of_lt hltk
    obtain ⟨b2, o2, hI2, hc2⟩ := hO1.at (D := D) (M := q2 ++ (q1 ++ ((zb1, .cells (Ht.cells own).toArray 23 (0, 0)) :: M))) (fun p hp => List.mem_append_right _ (List.mem_append_left _ hp)) Vw.len hgy
    have hlenk : ((zs.take k).map (·.id)).length ≤ 1000 := by rw [List.length_map, List.length_take]; omega
    refine Run.skip ?_; refine R.sq ?_; refine Run.block ?_; refine R.sq ?_; refine R.rg ?_; refine R.ix (hI2) Tryz.runUnderlying99 Tryz.sizeOf101 ?_; refine R.lAD 7 Tryz.isAgg101 Tryz.sizeOf101 ?_; refine R.alA Tryz.zeroValue101 (fun zb7 hzb7 => ?_); refine R.st Tryz.sizeOf101 ?_; refine R.nl ?_; refine R.hs (e' := [(10, _), (12, _), (32, _), (33, _), (34, _)]) ?_; refine R.rg ?_; refine R.mv ?_; refine R.fa Tryz.runUnderlying101 Tryz.sizeOf3 ?_; refine R.ld Tryz.isAgg3 ?_; refine R.bs zc3 Tryz.runUnderlying56 Tryz.sizeOf3 Tryz.zeroValue3 (fun zb8 hzb8 => ?_); refine R.ap Tryz.underlying56 info3 (hU) (permQ (a := [_, _])) (Src.lit (List.mem_append_right _ (.head _)) rfl) (by omega) (ones rfl) ?_; intro v' q' hO'
    have hU2 : IR v' ((zs.take k).map (·.id) ++ [y.id]) q' := OL.snoc hO' rfl
    refine R.as ?_; refine R.nl ?_; refine R.hs (e' := [(10, _), (32, _), (33, _), (34, _)]) ?_; refine Run.endBlock ?_; refine R.rg ?_; refine R.ad ?_; refine R.mv ?_; refine R.nl ?_; refine R.hs (e' := [(10, _), (32, _), (33, _), (34, _)]) ?_; exact Run.again (k + 1, v', q') ⟨by simp <;> omega, by rw [take_succ' hgy, List.map_append]; exact hU2⟩ (by simp <;> omega) (by refine ⟨rfl, rfl, ?_⟩; repeat (first | exact trivial | refine ⟨rfl, ?_⟩)) (fun w hs => hs.dropMid (a := [_, _]))
   ·
    have hzk : zs.take k = zs := by simp at zc6; exact List.take_of_length_le (by omega)
    refine Run.exit rfl ?_; refine R.sq ?_; refine R.rg ?_; refine R.mv ?_; refine R.as ?_; refine R.nl ?_; refine R.hs (e' := [(6, _)]) ?_
    rw [hzk] at hU
    refine R.frO hU (fun D' hle hL => ?_); exact Run.st (fun w hs => (hs.dropL).drop 1) (R.rk (RV.t .nil) 0 ⟨hle, rfl, zs, hp1, hL⟩)
theorem downs_spec {g : Gl} {D : Dict} {M : MList} {a : Value} {xs : List Vw} (own : Ht) (hn : xs.length ≤ 1000) (ha : Vws D a xs) :
    Gets Tryz.prog g 24 [a, .agg (Ht.cells own).toArray] D M (fun v D => ∃ zs : List Vw, zs.Perm (someV own 1 xs) ∧ Ints D v (zs.map (·.id))) := by
  refine Gets.enter Tryz.func24 rfl Tryz.ntmps24 ?_; refine R.sq ?_; refine R.rg ?_; refine R.bxA (fun zb1 hzb1 => ?_); refine R.as ?_; refine R.nl ?_; refine R.hs (e' := [(0, _), (3, _)]) ?_; refine R.sq ?_; refine R.rg ?_; refine R.mv ?_; refine R.lA 6 Tryz.isAgg23 Tryz.sizeOf23 ?_; refine R.gt Tryz.call50 (of_spec own 1 hn ha) (fun zr1_2 zD2 hzD2 hzr1_2 => ?_); refine R.as ?_; refine R.nl ?_; refine R.hs (e' := [(4, _)]) ?_; exact R.rk (RV.t .nil) 1 ⟨by assumption, rfl, hzr1_2⟩
end Go.Proofs.YtgdpjpmjcpieiaaGreat

/- Which links go down: the document's answer is some order of the ids. No condition. -/
namespace Go.Proofs.YtgdpjpmjcpieiaaGreat
open Go
set_option linter.unusedVariables false
set_option linter.unusedSimpArgs false
set_option maxRecDepth 100000
set_option maxHeartbeats 0
theorem lowV_mem {ws : List Vw} (h : ∀ x ∈ ws, toldH x.h = true) (hne : ws ≠ []) : ∃ x ∈ ws, lowV ws = some x := by
  have key : ∀ (r : List Vw) (b : Option Vw), (∀ x ∈ r, toldH x.h = true) → (r ≠ [] ∨ b ≠ none) → ∃ x, r.foldl lowStep b = some x ∧ (x ∈ r ∨ b = some x) := by
    intro r
    induction r with
    | nil =>
      intro b _ hb
      cases b with
      | none => simp at hb
      | some x => exact ⟨x, rfl, .inr rfl⟩
    | cons y r ih =>
      intro b ht _
      have hy := ht y (List.mem_cons_self ..)
      have hs : ∃ z, lowStep b y = some z ∧ (z = y ∨ b = some z) := by
        unfold lowStep
        split
        · exact ⟨y, rfl, .inl rfl⟩
        · rename_i hc
          cases b with
          | none => simp [hy] at hc
          | some z => exact ⟨z, rfl, .inr rfl⟩
      obtain ⟨z, hz, hz2⟩ := hs
      obtain ⟨x, h1, h2⟩ := ih (lowStep b y) (fun x hx => ht x (List.mem_cons_of_mem _ hx)) (.inr (by rw [hz]; simp))
      refine ⟨x, h1, ?_⟩
      rcases h2 with h2 | h2
      · exact .inl (List.mem_cons_of_mem _ h2)
      · rw [hz] at h2
        injection h2 with h2
        subst h2
        rcases hz2 with e | e
        · exact .inl (e ▸ List.mem_cons_self ..)
        · exact .inr e
  obtain ⟨x, h1, h2⟩ := key ws none h (.inl hne)
  rcases h2 with h2 | h2
  · exact ⟨x, h2, h1⟩
  · cases h2
theorem someV_told {own : Ht} {dir : Int} {xs : List Vw} {y : Vw} (hd : dir ≠ 0) (h : y ∈ someV own dir xs) : toldH y.h = true := by
  simp only [someV, List.mem_filter, decide_eq_true_eq] at h
  obtain ⟨_, h⟩ := h
  cases hq : toldH y.h with
  | true => rfl
  | false => exact absurd (by rw [← h]; simp [dirH, hq]) hd
theorem erase_snoc {t : List Vw} {y low : Vw} (h : low ∈ t ∨ y ≠ low) : (t ++ [y]).erase low = t.erase low ++ [y] := by
  by_cases hm : low ∈ t
  · exact List.erase_append_left _ hm
  · have hy := h.resolve_left hm
    rw [List.erase_append_right _ hm, List.erase_of_not_mem hm, List.erase_of_not_mem (by simpa using fun e => hy e.symm)]
theorem refOf_spec {g : Gl} {D : Dict} {M : MList} {a : Value} {xs : List Vw} (own : Ht) (dir : Int) (hd0 : dir ≠ 0) (hn : xs.length ≤ 1000) (ha : Vws D a xs) :
    Gets Tryz.prog g 162 [a, .agg (Ht.cells own).toArray, .int .i64 dir] D M (fun v D => ∃ zs : List Vw, zs.Perm (someV own dir xs) ∧ Ints D v (zs.map (·.id))) := by
  have hla := ha.form.choose_spec.choose_spec.2.2
  refine Gets.enter Tryz.func162 rfl Tryz.ntmps162 ?_; refine R.sq ?_; refine R.rg ?_; refine R.bxA (fun zb1 hzb1 => ?_); refine R.as ?_; refine R.nl ?_; refine R.hs (e' := [(0, _), (2, _), (4, _)]) ?_; refine R.sq ?_; refine R.rg ?_; refine R.as ?_; refine R.nl ?_; refine R.hs (e' := [(0, _), (2, _), (4, _), (7, _)]) ?_; refine R.sq ?_; refine R.sq ?_; refine R.rg ?_; refine R.as ?_; refine R.nl ?_; refine R.hs (e' := [(0, _), (2, _), (4, _), (7, _), (8, _)]) ?_; refine Run.block ?_
  refine Run.loop (ι := Nat × Value × MList) [(0, _), (2, _), (4, _)] (fun p => [(8, .int .i64 (p.1 : Int)), (7, p.2.1)]) (fun _ => D) (fun p => p.2.2 ++ ((zb1, .cells (Ht.cells own).toArray 23 (0, 0)) :: M)) (fun p => p.1 ≤ xs.length ∧ OL 7 Vw.cells 72 p.2.1 (someV own dir (xs.take p.1)) p.2.2) (fun p => xs.length - p.1) ((0, .slice none 0 0, [])) (by repeat (first | exact trivial | refine ⟨rfl, ?_⟩)) ?h0 (by repeat (first | exact trivial | refine ⟨rfl, ?_⟩)) (fun w hs => hs) ?_
  case h0 => exact ⟨Nat.zero_le _, OL.nil⟩
  rintro ⟨i, v, q0⟩ ⟨hi, hO⟩
  simp only at hi hO
  refine R.sq ?_; refine R.sq ?_; refine R.rg ?_; refine R.mv ?_; refine R.mv ?_; refine R.ll (ha) Tryz.runUnderlying24 ?_; refine R.cm ?_; refine R.nl ?_; refine R.hs (e' := [(0, _), (2, _), (4, _), (7, _), (8, _), (18, _)]) ?_; refine R.cd (fun zc2 => ?_) (fun zc2 => ?_)
  ·
   have hlt : i < xs.length := by simp at zc2; omega
   obtain ⟨x, hgx⟩ := get_of_lt hlt
   obtain ⟨b1, o1, hI1, hc1⟩ := ha.at Vw.len hgx
   have hlen : (someV own dir (xs.take i)).length ≤ 1000 := Nat.le_trans (List.length_filter_le _ _) (by rw [List.length_take]; omega)
   refine Run.skip ?_; refine R.sq ?_; refine Run.block ?_; refine R.sq ?_; refine Run.drawC Grow.eq 8 [(0, _), (2, _), (4, _), (7, _), (8, _)] mix (by kernel_rfl) (by repeat (first | exact trivial | refine ⟨rfl, ?_⟩)) ?_; apply TC.val []; exact rfl; kernel_rfl
   ·rintro _ rfl ; refine R.lA 6 Tryz.isAgg23 Tryz.sizeOf23 ?_ (hc := CsN.mkM (List.mem_append_right _ (.head _)) rfl); refine R.nl ?_; exact Run.loc rfl rfl rfl
   apply TC.val []; exact rfl; kernel_rfl
   ·rintro _ rfl ; refine R.mv ?_; refine R.nl ?_; exact Run.loc rfl rfl rfl
   apply TC.val []; exact rfl; kernel_rfl
   ·rintro _ rfl ; refine R.mv ?_; refine R.nl ?_; exact Run.loc rfl rfl rfl
   apply TC.val [1, 0]; exact rfl; kernel_rfl
   ·rintro _ rfl _ rfl _ rfl; refine R.ix (hI1) Tryz.runUnderlying24 Tryz.sizeOf72 ?_; refine R.nl ?_; exact Run.loc rfl rfl rfl
   apply TC.val [0]; exact rfl; kernel_rfl
   ·rintro _ rfl _ rfl; refine R.fa Tryz.runUnderlying72 Tryz.sizeOf23 ?_; refine R.nl ?_; exact Run.loc rfl rfl rfl
   apply TC.val [0]; exact rfl; kernel_rfl
   ·rintro _ rfl _ rfl; refine R.lAD 6 Tryz.isAgg23 Tryz.sizeOf23 ?_; refine R.nl ?_; exact Run.loc rfl rfl rfl
   apply TC.val [5, 0]; exact rfl; kernel_rfl
   ·rintro _ rfl _ rfl _ rfl; refine R.cg Tryz.call170 (refDir_spec own x.h) ?_; refine R.nl ?_; exact Run.loc rfl rfl rfl
   apply TC.val []; exact rfl; kernel_rfl
   ·rintro _ rfl ; refine R.mv ?_; refine R.nl ?_; exact Run.loc rfl rfl rfl
   refine TC.fin (by rfl) ?_; rintro _ rfl _ rfl _ rfl _ rfl _ rfl _ rfl _ rfl _ rfl _ rfl; refine R.cm ?_; refine R.nl ?_; refine R.hs (e' := [(0, _), (2, _), (4, _), (7, _), (8, _), (29, _)]) ?_; refine R.cd (fun zc12 => ?_) (fun zc12 => ?_)
   ·
    have hd : dirH own x.h = dir := by simpa using zc12
    have hs1 : someV own dir (xs.take (i + 1)) = someV own dir (xs.take i) ++ [x] := by rw [take_succ' hgx]; simp [someV, List.filter_append, hd]
    refine R.rg ?_; refine R.mv ?_; refine R.mv ?_; refine R.mv ?_; refine R.ix (hI1) Tryz.runUnderlying24 Tryz.sizeOf72 ?_; refine R.lAD 7 Tryz.isAgg72 Tryz.sizeOf72 ?_; refine R.bs zc72 Tryz.runUnderlying24 Tryz.sizeOf72 Tryz.zeroValue72 (fun zb13 hzb13 => ?_); refine R.ap Tryz.underlying24 info72 (hO) (permQ (a := [_])) (Src.lit (List.mem_append_right _ (.head _)) rfl) (by omega) (Vw.ones x) ?_; intro v' q' hO'
    have hO2 : OL 7 Vw.cells 72 v' (someV own dir (xs.take i) ++ [x]) q' := OL.snoc hO' rfl
    refine R.as ?_; refine R.nl ?_; refine R.hs (e' := [(0, _), (2, _), (4, _), (7, _), (8, _)]) ?_; refine Run.endBlock ?_; refine R.rg ?_; refine R.mv ?_; refine R.ad ?_; refine R.as ?_; refine R.nl ?_; refine R.hs (e' := [(0, _), (2, _), (4, _), (7, _), (8, _)]) ?_
    first | exact Run.again (i + 1, v', q') ⟨by simp <;> omega, by rw [hs1]; exact hO2⟩ (by simp <;> omega) (by refine ⟨rfl, rfl, ?_⟩; repeat (first | exact trivial | refine ⟨rfl, ?_⟩)) (fun w hs => hs.dropMid (a := [_])) | exact Run.again (i + 1, v, q0) ⟨by simp <;> omega, by rw [hs1]; exact hO⟩ (by simp <;> omega) (by refine ⟨rfl, rfl, ?_⟩; repeat (first | exact trivial | refine ⟨rfl, ?_⟩)) (fun w hs => hs)
   ·
    have hd : ¬ dirH own x.h = dir := by simpa using zc12
    have hs1 : someV own dir (xs.take (i + 1)) = someV own dir (xs.take i) := by rw [take_succ' hgx]; simp [someV, List.filter_append, hd]
    refine Run.skip ?_; refine Run.endBlock ?_; refine R.rg ?_; refine R.mv ?_; refine R.ad ?_; refine R.as ?_; refine R.nl ?_; refine R.hs (e' := [(0, _), (2, _), (4, _), (7, _), (8, _)]) ?_
    first | exact Run.again (i + 1, v', q') ⟨by simp <;> omega, by rw [hs1]; exact hO2⟩ (by simp <;> omega) (by refine ⟨rfl, rfl, ?_⟩; repeat (first | exact trivial | refine ⟨rfl, ?_⟩)) (fun w hs => hs.dropMid (a := [_])) | exact Run.again (i + 1, v, q0) ⟨by simp <;> omega, by rw [hs1]; exact hO⟩ (by simp <;> omega) (by refine ⟨rfl, rfl, ?_⟩; repeat (first | exact trivial | refine ⟨rfl, ?_⟩)) (fun w hs => hs)
  ·
   have hz : xs.take i = xs := by simp at zc2; exact List.take_of_length_le (by omega)
   rw [hz] at hO
   refine R.frO hO (fun D1 hle1 hL1 => ?_); refine Run.exit rfl ?_; refine R.sq ?_; refine R.rg ?_; refine R.as ?_; refine R.nl ?_; refine R.hs (e' := [(7, _), (9, _)]) ?_; refine R.sq ?_; refine Run.block ?_; refine Run.loop (ι := Dict × Value × List Vw × Value × MList × List Vw) [] (fun p => [(7, p.2.1), (9, p.2.2.2.1)]) (fun p => p.1) (fun p => p.2.2.2.2.1 ++ ((zb1, .cells (Ht.cells own).toArray 23 (0, 0)) :: M)) (fun p => Le D p.1 ∧ Vws p.1 p.2.1 p.2.2.1 ∧ IR p.2.2.2.1 (p.2.2.2.2.2.map (·.id)) p.2.2.2.2.1 ∧ (p.2.2.2.2.2 ++ p.2.2.1).Perm (someV own dir xs)) (fun p => p.2.2.1.length) ((D1, v, someV own dir xs, .slice none 0 0, [], [])) (by repeat (first | exact trivial | refine ⟨rfl, ?_⟩)) ?h0 (by repeat (first | exact trivial | refine ⟨rfl, ?_⟩)) (fun w hs => hs) ?_
   case h0 => exact ⟨hle1, hL1, OL.nil, List.Perm.refl _⟩
   rintro ⟨D2, v2, ws, u, q2, ds⟩ ⟨hle2, hL2, hU, hpd⟩
   simp only at hle2 hL2 hU hpd
   have hlw := hpd.length_eq
   rw [List.length_append] at hlw
   have hlx : (someV own dir xs).length ≤ 1000 := Nat.le_trans (List.length_filter_le _ _) hn
   have htw : ∀ y ∈ ws, toldH y.h = true := fun y hy => someV_told hd0 (hpd.subset (List.mem_append_right _ hy))
   refine R.sq ?_; refine R.sq ?_; refine R.rg ?_; refine R.mv ?_; refine R.ll (hL2) Tryz.runUnderlying24 ?_; refine R.cm ?_; refine R.nl ?_; refine R.hs (e' := [(7, _), (9, _), (39, _)]) ?_; refine R.cd (fun zc14 => ?_) (fun zc14 => ?_)
   ·
    have hne : ws ≠ [] := by rintro rfl; simp at zc14
    obtain ⟨low, hlm, hlow⟩ := lowV_mem htw hne
    refine Run.skip ?_; refine Run.block ?_; refine R.sq ?_; refine R.rg ?_; refine R.mv ?_; refine R.cg Tryz.call129 (refLow_spec hL2) ?_; refine R.mv ?_; refine R.ex ?_; refine R.ex ?_; refine R.alA Tryz.zeroValue72 (fun zb15 hzb15 => ?_); refine R.st Tryz.sizeOf72 ?_; refine R.as ?_; refine R.nl ?_; refine R.hs (e' := [(7, _), (9, _), (10, _)]) ?_; refine R.sq ?_; refine R.rg ?_; refine R.as ?_; refine R.nl ?_; refine R.hs (e' := [(7, _), (9, _), (10, _), (12, _)]) ?_; refine R.sq ?_; refine R.rg ?_; refine R.as ?_; refine R.nl ?_; refine R.hs (e' := [(7, _), (9, _), (10, _), (12, _), (13, _)]) ?_; refine R.sq ?_; refine R.sq ?_; refine R.rg ?_; refine R.as ?_; refine R.nl ?_; refine R.hs (e' := [(7, _), (9, _), (10, _), (12, _), (13, _), (14, _)]) ?_; refine Run.block ?_
    refine Run.loop (ι := Nat × Bool × Value × MList) [(7, _), (9, _), (10, _)] (fun p => [(14, .int .i64 (p.1 : Int)), (13, .bool p.2.1), (12, p.2.2.1)]) (fun _ => D2) (fun p => p.2.2.2 ++ ((zb15, .cells (Vw.cells ((lowV ws).getD z0V)).toArray 72 (0, 0)) :: (q2 ++ ((zb1, .cells (Ht.cells own).toArray 23 (0, 0)) :: M)))) (fun p => p.1 ≤ ws.length ∧ p.2.1 = decide (low ∈ ws.take p.1) ∧ OL 7 Vw.cells 72 p.2.2.1 ((ws.take p.1).erase low) p.2.2.2) (fun p => ws.length - p.1) ((0, false, .slice none 0 0, [])) (by repeat (first | exact trivial | refine ⟨rfl, ?_⟩)) ?h0 (by repeat (first | exact trivial | refine ⟨rfl, ?_⟩)) (fun w hs => hs) ?_
    case h0 => exact ⟨Nat.zero_le _, by simp, OL.nil⟩
    rintro ⟨k, dn, r, q3⟩ ⟨hk, hdn, hR⟩
    simp only at hk hdn hR
    refine R.sq ?_; refine R.sq ?_; refine R.rg ?_; refine R.mv ?_; refine R.mv ?_; refine R.ll (hL2) Tryz.runUnderlying24 ?_; refine R.cm ?_; refine R.nl ?_; refine R.hs (e' := [(7, _), (9, _), (10, _), (12, _), (13, _), (14, _), (48, _)]) ?_; refine R.cd (fun zc16 => ?_) (fun zc16 => ?_)
    ·
     have hltk : k < ws.length := by simp at zc16; omega
     obtain ⟨y, hgy⟩ := get_of_lt hltk
     obtain ⟨b2, o2, hI2, hc2⟩ := hL2.at Vw.len hgy
     have hlenk : ((ws.take k).erase low).length ≤ 1000 := Nat.le_trans List.length_erase_le (by rw [List.length_take]; omega)
     refine Run.skip ?_; refine R.sq ?_; refine Run.block ?_; refine R.sq ?_; refine R.sq ?_
     rcases Bool.eq_false_or_eq_true (!dn) with zg17 | zg17
     ·refine Run.drawC Grow.eq 8 [(7, _), (9, _), (10, _), (12, _), (13, _), (14, _)] mix (by kernel_rfl) (by repeat (first | exact trivial | refine ⟨rfl, ?_⟩)) ?_; apply TC.val []; exact rfl; kernel_rfl
      ·rintro _ rfl ; refine R.mv ?_; refine R.nl ?_; exact Run.loc rfl rfl rfl
      apply TC.val [0]; exact rfl; kernel_rfl
      ·rintro _ rfl _ rfl; refine R.nt ?_; refine R.nl ?_; exact Run.loc rfl rfl rfl
      apply TC.val [0]; exact rfl; kernel_rfl
      ·rintro _ rfl _ rfl; refine R.mv ?_; refine R.nl ?_; exact Run.loc rfl rfl rfl
      apply TC.val [0]; exact rfl; kernel_rfl
      ·rintro _ rfl _ rfl; refine R.gY (zg17) ?_; refine R.mv ?_; refine R.nl ?_; exact Run.loc rfl rfl rfl
      apply TC.val [1]; exact rfl; kernel_rfl
      ·rintro _ rfl _ rfl; refine R.gY (zg17) ?_; refine R.mv ?_; refine R.nl ?_; exact Run.loc rfl rfl rfl
      apply TC.val [2, 1, 0]; exact rfl; kernel_rfl
      ·rintro _ rfl _ rfl _ rfl _ rfl; refine R.gY (zg17) ?_; refine R.ix (hI2) Tryz.runUnderlying24 Tryz.sizeOf72 ?_; refine R.nl ?_; exact Run.loc rfl rfl rfl
      apply TC.val [3, 0]; exact rfl; kernel_rfl
      ·rintro _ rfl _ rfl _ rfl; refine R.gY (zg17) ?_; refine R.lAD 7 Tryz.isAgg72 Tryz.sizeOf72 ?_; refine R.nl ?_; exact Run.loc rfl rfl rfl
      apply TC.val [4]; exact rfl; kernel_rfl
      ·rintro _ rfl _ rfl; refine R.gY (zg17) ?_; refine R.lA 7 Tryz.isAgg72 Tryz.sizeOf72 ?_ (hc := CsN.mkM (List.mem_append_right _ (.head _)) rfl); refine R.nl ?_; exact Run.loc rfl rfl rfl
      refine TC.fin (by rfl) ?_; rintro _ rfl _ rfl _ rfl _ rfl _ rfl _ rfl _ rfl _ rfl _ rfl; refine R.gY (zg17) ?_; refine R.ea Tryz.eqGuardType72 (eqAt72 _ _ _ _ _ _ _ _ _ _ _ _ _ _) ?_; refine R.pT (zg17) ?_; refine R.nl ?_; refine R.hs (e' := [(7, _), (9, _), (10, _), (12, _), (13, _), (14, _), (60, _)]) ?_; refine R.cd (fun zc27 => ?_) (fun zc27 => ?_)
      ·
       have hyl : y = low ∧ dn = false := by rw [Vw.ext']; simp [hlow] at *; simp_all
       have hnm : low ∉ ws.take k := by intro hm; rw [hyl.2] at hdn; simp [hm] at hdn
       have hdn2 : true = decide (low ∈ ws.take (k + 1)) := by rw [take_succ' hgy, hyl.1]; simp
       have hR2 : OL 7 Vw.cells 72 r ((ws.take (k + 1)).erase low) q3 := by rw [take_succ' hgy, hyl.1, List.erase_append_right _ hnm]; simpa [List.erase_of_not_mem hnm] using hR
       refine R.sq ?_; refine R.rg ?_; refine R.as ?_; refine R.nl ?_; refine R.hs (e' := [(7, _), (9, _), (10, _), (12, _), (13, _), (14, _)]) ?_; refine Run.exit rfl ?_; refine R.rg ?_; refine R.mv ?_; refine R.ad ?_; refine R.as ?_; refine R.nl ?_; refine R.hs (e' := [(7, _), (9, _), (10, _), (12, _), (13, _), (14, _)]) ?_
       first | exact Run.again (k + 1, dn, v', q') ⟨by simp <;> omega, hdn2, hR2⟩ (by simp <;> omega) (by refine ⟨rfl, rfl, rfl, ?_⟩; repeat (first | exact trivial | refine ⟨rfl, ?_⟩)) (fun w hs => hs.dropMid (a := [_])) | exact Run.again (k + 1, true, r, q3) ⟨by simp <;> omega, hdn2, hR2⟩ (by simp <;> omega) (by refine ⟨rfl, rfl, rfl, ?_⟩; repeat (first | exact trivial | refine ⟨rfl, ?_⟩)) (fun w hs => hs)
      ·
       have hyl : dn = true ∨ y ≠ low := by rw [ne_eq, Vw.ext']; simp [hlow] at *; simp_all
       refine Run.skip ?_; refine R.rg ?_; refine R.mv ?_; refine R.mv ?_; refine R.mv ?_; refine R.ix (hI2) Tryz.runUnderlying24 Tryz.sizeOf72 ?_; refine R.lAD 7 Tryz.isAgg72 Tryz.sizeOf72 ?_; refine R.bs zc72 Tryz.runUnderlying24 Tryz.sizeOf72 Tryz.zeroValue72 (fun zb28 hzb28 => ?_); refine R.ap Tryz.underlying24 info72 (hR) (permQ (a := [_])) (Src.lit (List.mem_append_right _ (.head _)) rfl) (by omega) (Vw.ones y) ?_; intro v' q' hO'
       have hR3 : OL 7 Vw.cells 72 v' ((ws.take k).erase low ++ [y]) q' := OL.snoc hO' rfl
       have hdn2 : dn = decide (low ∈ ws.take (k + 1)) := by rw [take_succ' hgy, hdn]; grind
       have hR2 : OL 7 Vw.cells 72 v' ((ws.take (k + 1)).erase low) q' := by rw [take_succ' hgy, erase_snoc (hyl.imp (fun e => by rw [hdn] at e; simpa using e) id)]; exact hR3
       refine R.as ?_; refine R.nl ?_; refine R.hs (e' := [(7, _), (9, _), (10, _), (12, _), (13, _), (14, _)]) ?_; refine Run.endBlock ?_; refine R.rg ?_; refine R.mv ?_; refine R.ad ?_; refine R.as ?_; refine R.nl ?_; refine R.hs (e' := [(7, _), (9, _), (10, _), (12, _), (13, _), (14, _)]) ?_
       first | exact Run.again (k + 1, dn, v', q') ⟨by simp <;> omega, hdn2, hR2⟩ (by simp <;> omega) (by refine ⟨rfl, rfl, rfl, ?_⟩; repeat (first | exact trivial | refine ⟨rfl, ?_⟩)) (fun w hs => hs.dropMid (a := [_])) | exact Run.again (k + 1, true, r, q3) ⟨by simp <;> omega, hdn2, hR2⟩ (by simp <;> omega) (by refine ⟨rfl, rfl, rfl, ?_⟩; repeat (first | exact trivial | refine ⟨rfl, ?_⟩)) (fun w hs => hs)
     ·refine Run.drawC Grow.eq 8 [(7, _), (9, _), (10, _), (12, _), (13, _), (14, _)] mix (by kernel_rfl) (by repeat (first | exact trivial | refine ⟨rfl, ?_⟩)) ?_; apply TC.val []; exact rfl; kernel_rfl
      ·rintro _ rfl ; refine R.mv ?_; refine R.nl ?_; exact Run.loc rfl rfl rfl
      apply TC.val [0]; exact rfl; kernel_rfl
      ·rintro _ rfl _ rfl; refine R.nt ?_; refine R.nl ?_; exact Run.loc rfl rfl rfl
      apply TC.val [0]; exact rfl; kernel_rfl
      ·rintro _ rfl _ rfl; refine R.mv ?_; refine R.nl ?_; exact Run.loc rfl rfl rfl
      apply TC.val [0]; exact rfl; kernel_rfl
      ·rintro _ rfl _ rfl; refine R.gF (zg17) ?_; refine R.nl ?_; exact Run.loc rfl rfl rfl
      apply TC.val [1]; exact rfl; kernel_rfl
      ·rintro _ rfl _ rfl; refine R.gF (zg17) ?_; refine R.nl ?_; exact Run.loc rfl rfl rfl
      apply TC.val [2, 1, 0]; exact rfl; kernel_rfl
      ·rintro _ rfl _ rfl _ rfl _ rfl; refine R.gF (zg17) ?_; refine R.nl ?_; exact Run.loc rfl rfl rfl
      apply TC.val [3, 0]; exact rfl; kernel_rfl
      ·rintro _ rfl _ rfl _ rfl; refine R.gF (zg17) ?_; refine R.nl ?_; exact Run.loc rfl rfl rfl
      apply TC.val [4]; exact rfl; kernel_rfl
      ·rintro _ rfl _ rfl; refine R.gF (zg17) ?_; refine R.nl ?_; exact Run.loc rfl rfl rfl
      refine TC.fin (by rfl) ?_; rintro _ rfl _ rfl _ rfl _ rfl _ rfl _ rfl _ rfl _ rfl _ rfl; refine R.gF (zg17) ?_; refine R.pF (zg17) ?_; refine R.nl ?_; refine R.hs (e' := [(7, _), (9, _), (10, _), (12, _), (13, _), (14, _), (60, _)]) ?_; refine R.cF (rfl) ?_
      have hyl : dn = true ∨ y ≠ low := by rw [ne_eq, Vw.ext']; simp [hlow] at *; simp_all
      refine Run.skip ?_; refine R.rg ?_; refine R.mv ?_; refine R.mv ?_; refine R.mv ?_; refine R.ix (hI2) Tryz.runUnderlying24 Tryz.sizeOf72 ?_; refine R.lAD 7 Tryz.isAgg72 Tryz.sizeOf72 ?_; refine R.bs zc72 Tryz.runUnderlying24 Tryz.sizeOf72 Tryz.zeroValue72 (fun zb38 hzb38 => ?_); refine R.ap Tryz.underlying24 info72 (hR) (permQ (a := [_])) (Src.lit (List.mem_append_right _ (.head _)) rfl) (by omega) (Vw.ones y) ?_; intro v' q' hO'
      have hR3 : OL 7 Vw.cells 72 v' ((ws.take k).erase low ++ [y]) q' := OL.snoc hO' rfl
      have hdn2 : dn = decide (low ∈ ws.take (k + 1)) := by rw [take_succ' hgy, hdn]; grind
      have hR2 : OL 7 Vw.cells 72 v' ((ws.take (k + 1)).erase low) q' := by rw [take_succ' hgy, erase_snoc (hyl.imp (fun e => by rw [hdn] at e; simpa using e) id)]; exact hR3
      refine R.as ?_; refine R.nl ?_; refine R.hs (e' := [(7, _), (9, _), (10, _), (12, _), (13, _), (14, _)]) ?_; refine Run.endBlock ?_; refine R.rg ?_; refine R.mv ?_; refine R.ad ?_; refine R.as ?_; refine R.nl ?_; refine R.hs (e' := [(7, _), (9, _), (10, _), (12, _), (13, _), (14, _)]) ?_
      first | exact Run.again (k + 1, dn, v', q') ⟨by simp <;> omega, hdn2, hR2⟩ (by simp <;> omega) (by refine ⟨rfl, rfl, rfl, ?_⟩; repeat (first | exact trivial | refine ⟨rfl, ?_⟩)) (fun w hs => hs.dropMid (a := [_])) | exact Run.again (k + 1, true, r, q3) ⟨by simp <;> omega, hdn2, hR2⟩ (by simp <;> omega) (by refine ⟨rfl, rfl, rfl, ?_⟩; repeat (first | exact trivial | refine ⟨rfl, ?_⟩)) (fun w hs => hs)
    ·
     have hzk : ws.take k = ws := by simp at zc16; exact List.take_of_length_le (by omega)
     refine Run.exit rfl ?_; refine R.sq ?_
     have hrest : (ws.take k).erase low = ws.erase low := by rw [hzk]
     refine R.frO hR (fun D3 hle3 hL3 => ?_); refine R.rg ?_; refine R.mv ?_; refine R.fa Tryz.runUnderlying72 Tryz.sizeOf3 ?_; refine R.ld Tryz.isAgg3 ?_; refine R.bs zc3 Tryz.runUnderlying56 Tryz.sizeOf3 Tryz.zeroValue3 (fun zb39 hzb39 => ?_); refine R.ap Tryz.underlying56 info3 (hU) (permQ (a := [_, _])) (Src.lit (List.mem_append_right _ (.head _)) rfl) (by rw [List.length_map]; omega) (ones rfl) ?_; intro v' q' hO'
     have hU2 : IR v' (ds.map (·.id) ++ [low.id]) q' := OL.snoc hO' (by rw [hlow]; rfl)
     have hpd2 : ((ds ++ [low]) ++ ws.erase low).Perm (someV own dir xs) := by rw [List.append_assoc]; exact ((List.perm_cons_erase hlm).symm.append_left ds).trans hpd
     refine R.as ?_; refine R.nl ?_; refine R.hs (e' := [(9, _), (12, _)]) ?_; refine R.rg ?_; refine R.mv ?_; refine R.as ?_; refine R.nl ?_; refine R.hs (e' := [(7, _), (9, _)]) ?_; refine Run.endBlock ?_; exact Run.again (D3, r, ws.erase low, v', q', ds ++ [low]) ⟨hle2.mono hle3, by rw [← hrest]; exact hL3, by rw [List.map_append]; exact hU2, hpd2⟩ (by show (ws.erase low).length < ws.length; rw [List.length_erase_of_mem hlm]; have := List.length_pos_of_mem hlm; omega) (by refine ⟨rfl, rfl, ?_⟩; repeat (first | exact trivial | refine ⟨rfl, ?_⟩)) (fun w hs => hs.dropMid (a := [_, _]))
   ·
    have hwe : ws = [] := by simpa using zc14
    refine Run.exit rfl ?_; refine R.sq ?_; refine R.rg ?_; refine R.mv ?_; refine R.as ?_; refine R.nl ?_; refine R.hs (e' := [(6, _)]) ?_
    rw [hwe, List.append_nil] at hpd
    refine R.frO hU (fun D' hle hL => ?_); exact R.rk (RV.t .nil) 1 ⟨hle2.mono hle, rfl, ds, hpd, hL⟩
theorem refDowns_spec {g : Gl} {D : Dict} {M : MList} {a : Value} {xs : List Vw} (own : Ht) (hn : xs.length ≤ 1000) (ha : Vws D a xs) :
    Gets Tryz.prog g 131 [a, .agg (Ht.cells own).toArray] D M (fun v D => ∃ zs : List Vw, zs.Perm (someV own 1 xs) ∧ Ints D v (zs.map (·.id))) := by
  refine Gets.enter Tryz.func131 rfl Tryz.ntmps131 ?_; refine R.sq ?_; refine R.rg ?_; refine R.bxA (fun zb1 hzb1 => ?_); refine R.as ?_; refine R.nl ?_; refine R.hs (e' := [(0, _), (3, _)]) ?_; refine R.sq ?_; refine R.rg ?_; refine R.mv ?_; refine R.lA 6 Tryz.isAgg23 Tryz.sizeOf23 ?_; refine R.gt Tryz.call162 (refOf_spec own 1 (by decide) hn ha) (fun zr1_2 zD2 hzD2 hzr1_2 => ?_); refine R.as ?_; refine R.nl ?_; refine R.hs (e' := [(4, _)]) ?_; exact R.rk (RV.t .nil) 1 ⟨by assumption, rfl, hzr1_2⟩
end Go.Proofs.YtgdpjpmjcpieiaaGreat

/- Levels: rows of them, rising, each once. No condition. -/
namespace Go.Proofs.YtgdpjpmjcpieiaaGreat
open Go
set_option linter.unusedVariables false
set_option linter.unusedSimpArgs false
def ltL (a b : Lv) : Prop := a.tau < b.tau ∨ (a.tau = b.tau ∧ (a.oid < b.oid ∨ (a.oid = b.oid ∧ a.r < b.r)))
theorem ordL_lt (a b : Lv) : ordL a b < 0 ↔ ltL a b := by
  simp only [ordL, orI, cmpI, ltL]; grind
theorem ordL_gt (a b : Lv) : 0 < ordL a b ↔ ltL b a := by
  simp only [ordL, orI, cmpI, ltL]; grind
theorem ordL_eq (a b : Lv) : ordL a b = 0 ↔ a = b := by
  rw [Lv.ext']; simp only [ordL, orI, cmpI]; grind
theorem ltL.irr (a : Lv) : ¬ ltL a a := by simp [ltL]
theorem ltL.trans {a b c : Lv} (h : ltL a b) (h' : ltL b c) : ltL a c := by simp only [ltL] at *; omega
theorem ltL.tri (a b : Lv) : ltL a b ∨ a = b ∨ ltL b a := by rw [Lv.ext']; simp only [ltL]; omega
theorem ltL.asym {a b : Lv} (h : ltL a b) : ¬ ltL b a := fun h' => ltL.irr a (h.trans h')
theorem ltL.ne {a b : Lv} (h : ltL a b) : a ≠ b := fun e => ltL.irr b (e ▸ h)
/-- rising, each once -/
abbrev SS (l : List Lv) : Prop := l.Pairwise ltL
theorem SS.uniq : ∀ {l l' : List Lv}, SS l → SS l' → (∀ x, x ∈ l ↔ x ∈ l') → l = l'
  | [], [], _, _, _ => rfl
  | [], b :: r, _, _, h => by have := (h b).2 (List.mem_cons_self ..); cases this
  | a :: l, [], _, _, h => by have := (h a).1 (List.mem_cons_self ..); cases this
  | a :: l, b :: r, h1, h2, h => by
    obtain ⟨a1, a2⟩ := List.pairwise_cons.1 h1
    obtain ⟨b1, b2⟩ := List.pairwise_cons.1 h2
    have hab : a = b := by
      rcases List.mem_cons.1 ((h a).1 (List.mem_cons_self ..)) with e | e
      · exact e
      · rcases List.mem_cons.1 ((h b).2 (List.mem_cons_self ..)) with e' | e'
        · exact e'.symm
        · exact absurd (a1 b e') (ltL.asym (b1 a e))
    subst hab
    congr 1
    refine SS.uniq a2 b2 fun x => ⟨fun hx => ?_, fun hx => ?_⟩
    · rcases List.mem_cons.1 ((h x).1 (List.mem_cons_of_mem _ hx)) with e | e
      · subst e; exact absurd (a1 x hx) (ltL.irr x)
      · exact e
    · rcases List.mem_cons.1 ((h x).2 (List.mem_cons_of_mem _ hx)) with e | e
      · subst e; exact absurd (b1 x hx) (ltL.irr x)
      · exact e
/-- the document's way to put one in -/
def stepL (v : Lv) (p : List Lv × Bool) (o : Lv) : List Lv × Bool :=
  let q := if !p.2 && decide (ordL v o ≤ 0) then (p.1 ++ [v], true) else p
  (if o ≠ v then q.1 ++ [o] else q.1, q.2)
def insL (v : Lv) (out : List Lv) : List Lv := let p := out.foldl (stepL v) ([], false); if p.2 then p.1 else p.1 ++ [v]
def inL (v : Lv) : List Lv → List Lv
  | [] => [v]
  | o :: r => if ordL v o ≤ 0 then v :: (o :: r).filter (fun x => decide (x ≠ v)) else o :: inL v r
theorem foldl_done (v : Lv) : ∀ (r m : List Lv), r.foldl (stepL v) (m, true) = (m ++ r.filter (fun x => decide (x ≠ v)), true)
  | [], m => by simp
  | o :: r, m => by
    rw [List.foldl_cons]
    by_cases h : o = v
    · simp [stepL, h, foldl_done v r]
    · simp [stepL, h, foldl_done v r]
theorem insL_eq (v : Lv) : ∀ (out m : List Lv), (let p := out.foldl (stepL v) (m, false); if p.2 then p.1 else p.1 ++ [v]) = m ++ inL v out
  | [], m => by simp [inL]
  | o :: r, m => by
    rw [List.foldl_cons]
    by_cases h : ordL v o ≤ 0
    · have : stepL v (m, false) o = (m ++ [v] ++ (if o ≠ v then [o] else []), true) := by
        by_cases h2 : o = v
        · subst h2; simp [stepL, h]
        · simp [stepL, h, h2]
      rw [this]
      simp only [foldl_done, if_true, inL, if_pos h]
      by_cases h2 : o = v <;> simp [h2]
    · have hne : o ≠ v := by rintro rfl; exact h (by rw [(ordL_eq o o).2 rfl]; decide)
      have : stepL v (m, false) o = (m ++ [o], false) := by simp [stepL, h, hne]
      rw [this]
      have ih := insL_eq v r (m ++ [o])
      simp only at ih
      simp only [ih, inL, if_neg h, List.append_assoc, List.singleton_append]
theorem insL_inL (v : Lv) (out : List Lv) : insL v out = inL v out := by
  have := insL_eq v out []
  simpa [insL] using this
theorem inL_mem (v : Lv) : ∀ (out : List Lv) (x : Lv), x ∈ inL v out ↔ x = v ∨ x ∈ out
  | [], x => by simp [inL]
  | o :: r, x => by
    unfold inL
    split
    · simp only [List.mem_cons, List.mem_filter, decide_eq_true_eq]
      by_cases hx : x = v <;> simp [hx]
    · simp only [List.mem_cons, inL_mem v r x]
      by_cases hx : x = v <;> simp [hx]
theorem inL_SS (v : Lv) : ∀ {out : List Lv}, SS out → SS (inL v out)
  | [], _ => by simp [inL]
  | o :: r, h => by
    obtain ⟨h1, h2⟩ := List.pairwise_cons.1 h
    unfold inL
    split
    · rename_i hle
      have hvo : ltL v o ∨ v = o := by
        rcases Int.lt_or_eq_of_le hle with h | h
        · exact .inl ((ordL_lt v o).1 h)
        · exact .inr ((ordL_eq v o).1 h)
      refine List.pairwise_cons.2 ⟨fun x hx => ?_, h.filter _⟩
      obtain ⟨hx1, hx2⟩ := List.mem_filter.1 hx
      simp only [decide_eq_true_eq] at hx2
      rcases List.mem_cons.1 hx1 with rfl | hx3
      · exact hvo.resolve_right fun e => hx2 e.symm
      · rcases hvo with h3 | h3
        · exact h3.trans (h1 x hx3)
        · exact h3 ▸ h1 x hx3
    · rename_i hle
      have hov : ltL o v := (ordL_gt v o).1 (by omega)
      refine List.pairwise_cons.2 ⟨fun x hx => ?_, inL_SS v h2⟩
      rcases (inL_mem v r x).1 hx with rfl | hx
      · exact hov
      · exact h1 x hx
theorem insL_SS (v : Lv) {out : List Lv} (h : SS out) : SS (insL v out) := by rw [insL_inL]; exact inL_SS v h
theorem insL_mem (v : Lv) (out : List Lv) (x : Lv) : x ∈ insL v out ↔ x = v ∨ x ∈ out := by rw [insL_inL]; exact inL_mem v out x
theorem insL_len (v : Lv) (out : List Lv) : (insL v out).length ≤ out.length + 1 := by
  rw [insL_inL]
  induction out with
  | nil => simp [inL]
  | cons o r ih =>
    unfold inL
    split
    · have := List.length_filter_le (fun x => decide (x ≠ v)) (o :: r)
      simp only [List.length_cons] at *; omega
    · simp only [List.length_cons] at *; omega
/-- the levels that are told -/
def lvlsV (xs : List Vw) : List Lv := (xs.filter (fun x => toldH x.h)).map (fun x => lvlH x.h)
/-- .. rising, each once -/
def levelStep (out : List Lv) (x : Vw) : List Lv := if toldH x.h then insL (lvlH x.h) out else out
def levelsV (xs : List Vw) : List Lv := xs.foldl levelStep []
theorem levelsV_fold (xs : List Vw) : ∀ (out : List Lv), SS out → SS (xs.foldl levelStep out) ∧ ∀ v, v ∈ xs.foldl levelStep out ↔ v ∈ out ∨ v ∈ lvlsV xs := by
  induction xs with
  | nil => intro out h; exact ⟨h, fun v => by simp [lvlsV]⟩
  | cons x r ih =>
    intro out h
    rw [List.foldl_cons]
    have hs : SS (levelStep out x) := by unfold levelStep; split <;> first | exact insL_SS _ h | exact h
    obtain ⟨h1, h2⟩ := ih _ hs
    refine ⟨h1, fun v => ?_⟩
    rw [h2]
    unfold levelStep lvlsV
    by_cases ht : toldH x.h = true
    · simp only [ht, if_true, insL_mem, List.filter_cons_of_pos, List.map_cons, List.mem_cons]
      constructor
      · rintro ((h | h) | h)
        · exact .inr (.inl h)
        · exact .inl h
        · exact .inr (.inr h)
      · rintro (h | h | h)
        · exact .inl (.inr h)
        · exact .inl (.inl h)
        · exact .inr h
    · simp [ht]
theorem levelsV_SS (xs : List Vw) : SS (levelsV xs) := (levelsV_fold xs [] .nil).1
theorem levelsV_mem (xs : List Vw) (v : Lv) : v ∈ levelsV xs ↔ v ∈ lvlsV xs := by
  have := (levelsV_fold xs [] .nil).2 v
  simpa [levelsV] using this
theorem levelsV_len (xs : List Vw) : (levelsV xs).length ≤ xs.length := by
  have key : ∀ (xs : List Vw) (out : List Lv), (xs.foldl levelStep out).length ≤ out.length + xs.length := by
    intro xs
    induction xs with
    | nil => intro out; simp
    | cons x r ih =>
      intro out
      rw [List.foldl_cons]
      have h1 := ih (levelStep out x)
      have h2 : (levelStep out x).length ≤ out.length + 1 := by
        unfold levelStep; split
        · exact insL_len _ _
        · omega
      simp only [List.length_cons]; omega
  have := key xs []
  simpa [levelsV] using this
/-- next to one another, each once -/
def compL : List Lv → List Lv
  | [] => []
  | [a] => [a]
  | a :: b :: r => if a = b then compL (b :: r) else a :: compL (b :: r)
theorem compL_mem : ∀ (l : List Lv) (x : Lv), x ∈ compL l ↔ x ∈ l
  | [], x => by simp [compL]
  | [a], x => by simp [compL]
  | a :: b :: r, x => by
    unfold compL
    split
    · rename_i e; subst e; rw [compL_mem (a :: r) x]; simp
    · rw [List.mem_cons, compL_mem (b :: r) x, List.mem_cons (a := x) (b := a)]
theorem compL_SS : ∀ {l : List Lv}, l.Pairwise (fun a b => ¬ ltL b a) → SS (compL l)
  | [], _ => .nil
  | [a], _ => by simp [compL]
  | a :: b :: r, h => by
    obtain ⟨h1, h2⟩ := List.pairwise_cons.1 h
    unfold compL
    split
    · exact compL_SS h2
    · rename_i hne
      refine List.pairwise_cons.2 ⟨fun x hx => ?_, compL_SS h2⟩
      have hx' := (compL_mem _ _).1 hx
      rcases ltL.tri a x with h3 | h3 | h3
      · exact h3
      · subst h3
        rcases List.mem_cons.1 hx' with e | e
        · exact absurd e hne
        · have hb := (List.pairwise_cons.1 h2).1 a e
          rcases ltL.tri a b with h4 | h4 | h4
          · exact absurd h4 hb
          · exact absurd h4 hne
          · exact absurd h4 (h1 b (List.mem_cons_self ..))
      · exact absurd h3 (h1 x hx')
theorem compL_levels {xs : List Vw} {ys : List Lv} (hp : ys.Perm (lvlsV xs)) (hs : ys.Pairwise (fun a b => ¬ ltL b a)) : compL ys = levelsV xs :=
  SS.uniq (compL_SS hs) (levelsV_SS xs) fun x => by rw [compL_mem, levelsV_mem, hp.mem_iff]
theorem stepL_len (v : Lv) : ∀ (r : List Lv) (p : List Lv × Bool), (r.foldl (stepL v) p).1.length ≤ p.1.length + 2 * r.length
  | [], p => by simp
  | o :: r, p => by
    rw [List.foldl_cons]
    have h1 := stepL_len v r (stepL v p o)
    have h2 : (stepL v p o).1.length ≤ p.1.length + 2 := by
      unfold stepL
      simp only
      split <;> split <;> simp
    simp only [List.length_cons]; omega
theorem swoL : Sort.SWO (fun a b : Lv => decide (ordL a b < 0)) where
  irrefl x := by simp only [decide_eq_false_iff_not, ordL_lt]; exact ltL.irr x
  trans x y z h1 h2 := by simp only [decide_eq_true_eq, ordL_lt] at *; exact h1.trans h2
  ntrans x y z h1 h2 := by simp only [decide_eq_false_iff_not, ordL_lt, ltL] at *; omega
end Go.Proofs.YtgdpjpmjcpieiaaGreat
