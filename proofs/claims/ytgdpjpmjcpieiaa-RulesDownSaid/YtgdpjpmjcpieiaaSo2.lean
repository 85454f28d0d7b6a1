/- Stable sorting of views, the whole: what is in a row stays in it. No condition. -/
import Derived.Test.YtgdpjpmjcpieiaaSo1
namespace Go.Proofs.Ytgdpjpmjcpieiaa
open Go
set_option linter.unusedVariables false
set_option linter.unusedSimpArgs false
set_option maxRecDepth 100000
set_option maxHeartbeats 0
theorem half_u64 {a : Int} (h0 : 0 ≤ a) : a.fdiv (2 ^ (min (1 : Int).toNat IntKind.u64.bits)) = a / 2 := by
  rw [show (min (1 : Int).toNat IntKind.u64.bits) = 1 from rfl, Int.fdiv_eq_ediv_of_nonneg _ (by decide)]; rfl
theorem wrapU {x : Int} (h0 : 0 ≤ x) (h1 : x ≤ 18446744073709551615) : IntKind.u64.wrap x = x := by rw [wrap_u64]; omega
theorem symMerge_spec {g : Gl} {D : Dict} {Z : MList} {v : Value} : ∀ (k : Nat) {q : MList} {xs : List Vw} (a m b : Int) (hk : (b - a).toNat = k) (ha0 : 0 ≤ a) (ham : a < m) (hmb : m < b) (hb : b ≤ xs.length) (hml : xs.length ≤ 1000000) (ho : VR v xs q),
    Spec Try.prog g 85 [v, .int .i64 a, .int .i64 m, .int .i64 b, .func (.func 67) #[] #[]] D (q ++ Z) (Kept q Z D v xs) := by
  intro k
  induction k using Nat.strongRecOn with
  | _ k ih =>
  intro q xs a m b hk ha0 ham hmb hb hml ho
  refine Spec.enter Try.func85 rfl Try.ntmps85 rfl ?_
  refine R.sq ?_
  refine R.sq ?_
  refine R.rg ?_
  refine R.mv ?_
  refine R.mv ?_
  refine R.sb ?_
  refine R.cm ?_
  refine R.nl ?_
  refine R.hs (e' := [(0, _), (1, _), (2, _), (3, _), (4, _), (28, _)]) ?_
  refine R.cd (fun zc1 => ?_) (fun zc1 => ?_)
  ·
    have hma : m - a = 1 := by simpa using zc1
    refine R.sq ?_
    refine R.rg ?_
    refine R.mv ?_
    refine R.as ?_
    refine R.nl ?_
    refine R.hs (e' := [(0, _), (1, _), (3, _), (4, _), (10, _)]) ?_
    refine R.sq ?_
    refine R.rg ?_
    refine R.mv ?_
    refine R.as ?_
    refine R.nl ?_
    refine R.hs (e' := [(0, _), (1, _), (4, _), (10, _), (11, _)]) ?_
    refine R.sq ?_
    refine Run.block ?_
    refine Run.loop (ι := Int × Int) [(0, _), (1, _), (4, _)] (fun p => [(10, .int .i64 p.1), (11, .int .i64 p.2)]) (fun _ => D) (fun _ => q ++ Z) (fun p => m ≤ p.1 ∧ p.1 ≤ p.2 ∧ p.2 ≤ b) (fun p => (p.2 - p.1).toNat) ((m, b)) (by repeat (first | exact trivial | refine ⟨rfl, ?_⟩)) ?h0 (by repeat (first | exact trivial | refine ⟨rfl, ?_⟩)) (fun w hs => hs) ?_
    case h0 => exact ⟨by simp, by simp <;> omega, by simp⟩
    rintro ⟨i, j⟩ ⟨hi, hij, hj⟩
    simp only at hi hij hj
    refine R.sq ?_
    refine R.sq ?_
    refine R.rg ?_
    refine R.mv ?_
    refine R.mv ?_
    refine R.cm ?_
    refine R.nl ?_
    refine R.hs (e' := [(0, _), (1, _), (4, _), (10, _), (11, _), (33, _)]) ?_
    refine R.cd (fun zc2 => ?_) (fun zc2 => ?_)
    ·
      have hlt : i < j := by simpa using zc2
      obtain ⟨x, hgx⟩ := get_of_lt (xs := xs) (i := ((i + j) / 2).toNat) (by omega)
      obtain ⟨y, hgy⟩ := get_of_lt (xs := xs) (i := a.toNat) (by omega)
      obtain ⟨b1, o1, hI1, hc1⟩ := ho.ix (D := D) (Z := Z) hgx
      obtain ⟨b2, o2, hI2, hc2⟩ := ho.ix (D := D) (Z := Z) hgy
      refine Run.skip ?_
      refine Run.block ?_
      refine R.sq ?_
      refine R.rg ?_
      refine R.mv ?_
      refine R.mv ?_
      refine R.ad ?_
      refine R.cv Try.runUnderlying3 Try.runUnderlying71 (wrapU (show 0 ≤ i + j by omega) (show i + j ≤ 18446744073709551615 by omega)) ?_
      refine R.sr (half_u64 (show 0 ≤ i + j by omega)) ?_
      refine R.cv Try.runUnderlying71 Try.runUnderlying3 (wrap_i64 (show -9223372036854775808 ≤ (i + j) / 2 by omega) (show (i + j) / 2 ≤ 9223372036854775807 by omega)) ?_
      refine R.as ?_
      refine R.nl ?_
      refine R.hs (e' := [(0, _), (1, _), (4, _), (10, _), (11, _), (12, _)]) ?_
      refine R.sq ?_
      refine Run.drawC Grow.eq 9 [(0, _), (1, _), (4, _), (10, _), (11, _), (12, _)] mix (by kernel_rfl) (by repeat (first | exact trivial | refine ⟨rfl, ?_⟩)) ?_
      apply TC.val []
      · exact rfl
      · kernel_rfl
      ·
        rintro _ rfl 
        refine R.mv ?_
        refine R.nl ?_
        exact Run.loc rfl rfl rfl
      apply TC.val []
      · exact rfl
      · kernel_rfl
      ·
        rintro _ rfl 
        refine R.mv ?_
        refine R.nl ?_
        exact Run.loc rfl rfl rfl
      apply TC.val []
      · exact rfl
      · kernel_rfl
      ·
        rintro _ rfl 
        refine R.mv ?_
        refine R.nl ?_
        exact Run.loc rfl rfl rfl
      apply TC.val [1, 0]
      · exact rfl
      · kernel_rfl
      ·
        rintro _ rfl _ rfl _ rfl
        refine R.ix (hI1) Try.runUnderlying73 Try.sizeOf75 ?_
        refine R.nl ?_
        exact Run.loc rfl rfl rfl
      apply TC.val [0]
      · exact rfl
      · kernel_rfl
      ·
        rintro _ rfl _ rfl
        refine R.lAD 7 Try.isAgg75 Try.sizeOf75 ?_
        refine R.nl ?_
        exact Run.loc rfl rfl rfl
      apply TC.val []
      · exact rfl
      · kernel_rfl
      ·
        rintro _ rfl 
        refine R.mv ?_
        refine R.nl ?_
        exact Run.loc rfl rfl rfl
      apply TC.val []
      · exact rfl
      · kernel_rfl
      ·
        rintro _ rfl 
        refine R.mv ?_
        refine R.nl ?_
        exact Run.loc rfl rfl rfl
      apply TC.val [1, 0]
      · exact rfl
      · kernel_rfl
      ·
        rintro _ rfl _ rfl _ rfl
        refine R.ix (hI2) Try.runUnderlying73 Try.sizeOf75 ?_
        refine R.nl ?_
        exact Run.loc rfl rfl rfl
      apply TC.val [0]
      · exact rfl
      · kernel_rfl
      ·
        rintro _ rfl _ rfl
        refine R.lAD 7 Try.isAgg75 Try.sizeOf75 ?_
        refine R.nl ?_
        exact Run.loc rfl rfl rfl
      refine TC.fin (by rfl) ?_
      rintro _ rfl _ rfl _ rfl _ rfl _ rfl _ rfl _ rfl _ rfl _ rfl _ rfl
      refine R.cy (Try.call67) (cmpV_spec x y) ?_
      refine R.cm ?_
      refine R.nl ?_
      refine R.hs (e' := [(0, _), (1, _), (4, _), (10, _), (11, _), (12, _), (50, _)]) ?_
      refine R.cd (fun zc13 => ?_) (fun zc13 => ?_)
      ·
        refine R.rg ?_
        refine R.mv ?_
        refine R.ad ?_
        refine R.as ?_
        refine R.nl ?_
        refine R.hs (e' := [(0, _), (1, _), (4, _), (10, _), (11, _)]) ?_
        refine Run.endBlock ?_
        first | exact Run.again ((i + j) / 2 + 1, j) ⟨by simp <;> omega, by simp <;> omega, by simp <;> omega⟩ (by simp <;> omega) (by refine ⟨rfl, rfl, ?_⟩; repeat (first | exact trivial | refine ⟨rfl, ?_⟩)) (fun w hs => hs) | exact Run.again (i, (i + j) / 2) ⟨by simp <;> omega, by simp <;> omega, by simp <;> omega⟩ (by simp <;> omega) (by refine ⟨rfl, rfl, ?_⟩; repeat (first | exact trivial | refine ⟨rfl, ?_⟩)) (fun w hs => hs)
      ·
        refine R.rg ?_
        refine R.mv ?_
        refine R.as ?_
        refine R.nl ?_
        refine R.hs (e' := [(0, _), (1, _), (4, _), (10, _), (11, _)]) ?_
        refine Run.endBlock ?_
        first | exact Run.again ((i + j) / 2 + 1, j) ⟨by simp <;> omega, by simp <;> omega, by simp <;> omega⟩ (by simp <;> omega) (by refine ⟨rfl, rfl, ?_⟩; repeat (first | exact trivial | refine ⟨rfl, ?_⟩)) (fun w hs => hs) | exact Run.again (i, (i + j) / 2) ⟨by simp <;> omega, by simp <;> omega, by simp <;> omega⟩ (by simp <;> omega) (by refine ⟨rfl, rfl, ?_⟩; repeat (first | exact trivial | refine ⟨rfl, ?_⟩)) (fun w hs => hs)
    ·
      refine Run.exit rfl ?_
      refine R.sq ?_
      refine R.sq ?_
      refine R.rg ?_
      refine R.mv ?_
      refine R.as ?_
      refine R.nl ?_
      refine R.hs (e' := [(0, _), (10, _), (13, _)]) ?_
      refine Run.block ?_
      refine Run.loop (ι := Int × List Vw × MList) [(0, _), (10, _)] (fun p => [(13, .int .i64 p.1)]) (fun _ => D) (fun p => p.2.2 ++ Z) (fun p => a ≤ p.1 ∧ p.2.1.Perm xs ∧ VR v p.2.1 p.2.2) (fun p => (i - 1 - p.1).toNat) ((a, xs, q)) (by repeat (first | exact trivial | refine ⟨rfl, ?_⟩)) ?h0 (by repeat (first | exact trivial | refine ⟨rfl, ?_⟩)) (fun w hs => hs) ?_
      case h0 => exact ⟨by simp, List.Perm.refl _, ho⟩
      rintro ⟨c, ws, q1⟩ ⟨hac, hpw, hOw⟩
      simp only at hac hpw hOw
      have hwl := hpw.length_eq
      refine R.sq ?_
      refine R.sq ?_
      refine R.rg ?_
      refine R.mv ?_
      refine R.mv ?_
      refine R.sb ?_
      refine R.cm ?_
      refine R.nl ?_
      refine R.hs (e' := [(0, _), (10, _), (13, _), (58, _)]) ?_
      refine R.cd (fun zc14 => ?_) (fun zc14 => ?_)
      ·
        have hlt : c < i - 1 := by simpa using zc14
        obtain ⟨x, hgx⟩ := get_of_lt (xs := ws) (i := c.toNat) (by omega)
        obtain ⟨y, hgy⟩ := get_of_lt (xs := ws) (i := (c + 1).toNat) (by omega)
        obtain ⟨b1, o1, hI1, hc1⟩ := hOw.ix (D := D) (Z := Z) hgx
        obtain ⟨b2, o2, hI2, hc2⟩ := hOw.ix (D := D) (Z := Z) hgy
        refine Run.skip ?_
        refine R.sq ?_
        refine Run.block ?_
        refine Run.drawX Grow.eq 16 15 (fun M' => ∃ q2, VR v (ws.set c.toNat y) q2 ∧ M' = q2 ++ Z) [(0, _), (10, _), (13, _)] mix (by kernel_rfl) (by repeat (first | exact trivial | refine ⟨rfl, ?_⟩)) ?_
        apply TX.val []
        · exact rfl
        · kernel_rfl
        ·
          rintro _ rfl 
          refine R.mv ?_
          refine R.nl ?_
          exact Run.loc rfl rfl rfl
        apply TX.val []
        · exact rfl
        · kernel_rfl
        ·
          rintro _ rfl 
          refine R.mv ?_
          refine R.nl ?_
          exact Run.loc rfl rfl rfl
        apply TX.late []
        · exact rfl
        · kernel_rfl
        ·
          intro zM hzM
          rintro _ rfl 
          refine R.mv ?_
          refine R.nl ?_
          exact Run.loc rfl rfl rfl
        apply TX.late []
        · exact rfl
        · kernel_rfl
        ·
          intro zM hzM
          rintro _ rfl 
          refine R.mv ?_
          refine R.nl ?_
          exact Run.loc rfl rfl rfl
        apply TX.late [0]
        · exact rfl
        · kernel_rfl
        ·
          intro zM hzM
          rintro _ rfl _ rfl
          refine R.ad ?_
          refine R.nl ?_
          exact Run.loc rfl rfl rfl
        apply TX.val []
        · exact rfl
        · kernel_rfl
        ·
          rintro _ rfl 
          refine R.mv ?_
          refine R.nl ?_
          exact Run.loc rfl rfl rfl
        apply TX.val []
        · exact rfl
        · kernel_rfl
        ·
          rintro _ rfl 
          refine R.mv ?_
          refine R.nl ?_
          exact Run.loc rfl rfl rfl
        apply TX.val [0]
        · exact rfl
        · kernel_rfl
        ·
          rintro _ rfl _ rfl
          refine R.ad ?_
          refine R.nl ?_
          exact Run.loc rfl rfl rfl
        apply TX.val [2, 0]
        · exact rfl
        · kernel_rfl
        ·
          rintro _ rfl _ rfl _ rfl
          refine R.ix (hI2) Try.runUnderlying73 Try.sizeOf75 ?_
          refine R.nl ?_
          exact Run.loc rfl rfl rfl
        apply TX.val [0]
        · exact rfl
        · kernel_rfl
        ·
          rintro _ rfl _ rfl
          refine R.lAD 7 Try.isAgg75 Try.sizeOf75 ?_
          refine R.nl ?_
          exact Run.loc rfl rfl rfl
        apply TX.val []
        · exact rfl
        · kernel_rfl
        ·
          rintro _ rfl 
          refine R.mv ?_
          refine R.nl ?_
          exact Run.loc rfl rfl rfl
        apply TX.val []
        · exact rfl
        · kernel_rfl
        ·
          rintro _ rfl 
          refine R.mv ?_
          refine R.nl ?_
          exact Run.loc rfl rfl rfl
        apply TX.val [1, 0]
        · exact rfl
        · kernel_rfl
        ·
          rintro _ rfl _ rfl _ rfl
          refine R.ix (hI1) Try.runUnderlying73 Try.sizeOf75 ?_
          refine R.nl ?_
          exact Run.loc rfl rfl rfl
        apply TX.val [0]
        · exact rfl
        · kernel_rfl
        ·
          rintro _ rfl _ rfl
          refine R.lAD 7 Try.isAgg75 Try.sizeOf75 ?_
          refine R.nl ?_
          exact Run.loc rfl rfl rfl
        apply TX.val [13, 12]
        · exact rfl
        · kernel_rfl
        ·
          rintro _ rfl _ rfl _ rfl
          refine R.ix (hI1) Try.runUnderlying73 Try.sizeOf75 ?_
          refine R.nl ?_
          exact Run.loc rfl rfl rfl
        apply TX.eff [5, 0]
        · exact rfl
        · kernel_rfl
        ·
          rintro _ rfl _ rfl _ rfl
          refine R.so y hOw hI1 Vw.len Try.sizeOf75 (fun q2 hO2 => ?_)
          refine R.nl ?_
          exact Run.effd rfl (⟨q2, hO2, rfl⟩)
        refine TX.fin (by rfl) ?_
        rintro zM ⟨q2, hO2, rfl⟩
        rintro _ rfl  _ rfl _ rfl _ rfl _ rfl _ rfl _ rfl _ rfl _ rfl _ rfl _ rfl _ rfl _ rfl _ rfl _ rfl _ rfl
        refine R.ix (hI2) Try.runUnderlying73 Try.sizeOf75 ?_
        refine R.so x hO2 hI2 Vw.len Try.sizeOf75 (fun q3 hO3 => ?_)
        refine R.nl ?_
        refine R.hs (e' := [(0, _), (10, _), (13, _)]) ?_
        refine Run.endBlock ?_
        refine R.rg ?_
        refine R.mv ?_
        refine R.ad ?_
        refine R.as ?_
        refine R.nl ?_
        refine R.hs (e' := [(0, _), (10, _), (13, _)]) ?_
        exact Run.again (c + 1, _, q3) ⟨by simp <;> omega, (swap_perm hgx hgy).trans hpw, hO3⟩ (by simp <;> omega) (by repeat (first | exact trivial | refine ⟨rfl, ?_⟩)) (fun w hs => hs)
      ·
        refine Run.exit rfl ?_
        first
          | exact R.rk (u := .tuple #[]) .nil 0 ⟨rfl, ws, q1, hOw, hpw, rfl⟩
          | exact R.fn (u := .tuple #[]) .nil 0 ⟨rfl, _, _, hOc, hpx, rfl⟩
  ·
    have hma : m - a ≠ 1 := by simpa using zc1
    refine Run.skip ?_
    refine R.sq ?_
    refine R.sq ?_
    refine R.rg ?_
    refine R.mv ?_
    refine R.mv ?_
    refine R.sb ?_
    refine R.cm ?_
    refine R.nl ?_
    refine R.hs (e' := [(0, _), (1, _), (2, _), (3, _), (4, _), (80, _)]) ?_
    refine R.cd (fun zc32 => ?_) (fun zc32 => ?_)
    ·
      have hbm : b - m = 1 := by simpa using zc32
      refine R.sq ?_
      refine R.rg ?_
      refine R.mv ?_
      refine R.as ?_
      refine R.nl ?_
      refine R.hs (e' := [(0, _), (2, _), (4, _), (14, _)]) ?_
      refine R.sq ?_
      refine R.rg ?_
      refine R.mv ?_
      refine R.as ?_
      refine R.nl ?_
      refine R.hs (e' := [(0, _), (2, _), (4, _), (14, _), (15, _)]) ?_
      refine R.sq ?_
      refine Run.block ?_
      refine Run.loop (ι := Int × Int) [(0, _), (2, _), (4, _)] (fun p => [(14, .int .i64 p.1), (15, .int .i64 p.2)]) (fun _ => D) (fun _ => q ++ Z) (fun p => a ≤ p.1 ∧ p.1 ≤ p.2 ∧ p.2 ≤ m) (fun p => (p.2 - p.1).toNat) ((a, m)) (by repeat (first | exact trivial | refine ⟨rfl, ?_⟩)) ?h0 (by repeat (first | exact trivial | refine ⟨rfl, ?_⟩)) (fun w hs => hs) ?_
      case h0 => exact ⟨by simp, by simp <;> omega, by simp⟩
      rintro ⟨i, j⟩ ⟨hi, hij, hj⟩
      simp only at hi hij hj
      refine R.sq ?_
      refine R.sq ?_
      refine R.rg ?_
      refine R.mv ?_
      refine R.mv ?_
      refine R.cm ?_
      refine R.nl ?_
      refine R.hs (e' := [(0, _), (2, _), (4, _), (14, _), (15, _), (85, _)]) ?_
      refine R.cd (fun zc33 => ?_) (fun zc33 => ?_)
      ·
        have hlt : i < j := by simpa using zc33
        obtain ⟨x, hgx⟩ := get_of_lt (xs := xs) (i := m.toNat) (by omega)
        obtain ⟨y, hgy⟩ := get_of_lt (xs := xs) (i := ((i + j) / 2).toNat) (by omega)
        obtain ⟨b1, o1, hI1, hc1⟩ := ho.ix (D := D) (Z := Z) hgx
        obtain ⟨b2, o2, hI2, hc2⟩ := ho.ix (D := D) (Z := Z) hgy
        refine Run.skip ?_
        refine Run.block ?_
        refine R.sq ?_
        refine R.rg ?_
        refine R.mv ?_
        refine R.mv ?_
        refine R.ad ?_
        refine R.cv Try.runUnderlying3 Try.runUnderlying71 (wrapU (show 0 ≤ i + j by omega) (show i + j ≤ 18446744073709551615 by omega)) ?_
        refine R.sr (half_u64 (show 0 ≤ i + j by omega)) ?_
        refine R.cv Try.runUnderlying71 Try.runUnderlying3 (wrap_i64 (show -9223372036854775808 ≤ (i + j) / 2 by omega) (show (i + j) / 2 ≤ 9223372036854775807 by omega)) ?_
        refine R.as ?_
        refine R.nl ?_
        refine R.hs (e' := [(0, _), (2, _), (4, _), (14, _), (15, _), (16, _)]) ?_
        refine R.sq ?_
        refine Run.drawC Grow.eq 9 [(0, _), (2, _), (4, _), (14, _), (15, _), (16, _)] mix (by kernel_rfl) (by repeat (first | exact trivial | refine ⟨rfl, ?_⟩)) ?_
        apply TC.val []
        · exact rfl
        · kernel_rfl
        ·
          rintro _ rfl 
          refine R.mv ?_
          refine R.nl ?_
          exact Run.loc rfl rfl rfl
        apply TC.val []
        · exact rfl
        · kernel_rfl
        ·
          rintro _ rfl 
          refine R.mv ?_
          refine R.nl ?_
          exact Run.loc rfl rfl rfl
        apply TC.val []
        · exact rfl
        · kernel_rfl
        ·
          rintro _ rfl 
          refine R.mv ?_
          refine R.nl ?_
          exact Run.loc rfl rfl rfl
        apply TC.val [1, 0]
        · exact rfl
        · kernel_rfl
        ·
          rintro _ rfl _ rfl _ rfl
          refine R.ix (hI1) Try.runUnderlying73 Try.sizeOf75 ?_
          refine R.nl ?_
          exact Run.loc rfl rfl rfl
        apply TC.val [0]
        · exact rfl
        · kernel_rfl
        ·
          rintro _ rfl _ rfl
          refine R.lAD 7 Try.isAgg75 Try.sizeOf75 ?_
          refine R.nl ?_
          exact Run.loc rfl rfl rfl
        apply TC.val []
        · exact rfl
        · kernel_rfl
        ·
          rintro _ rfl 
          refine R.mv ?_
          refine R.nl ?_
          exact Run.loc rfl rfl rfl
        apply TC.val []
        · exact rfl
        · kernel_rfl
        ·
          rintro _ rfl 
          refine R.mv ?_
          refine R.nl ?_
          exact Run.loc rfl rfl rfl
        apply TC.val [1, 0]
        · exact rfl
        · kernel_rfl
        ·
          rintro _ rfl _ rfl _ rfl
          refine R.ix (hI2) Try.runUnderlying73 Try.sizeOf75 ?_
          refine R.nl ?_
          exact Run.loc rfl rfl rfl
        apply TC.val [0]
        · exact rfl
        · kernel_rfl
        ·
          rintro _ rfl _ rfl
          refine R.lAD 7 Try.isAgg75 Try.sizeOf75 ?_
          refine R.nl ?_
          exact Run.loc rfl rfl rfl
        refine TC.fin (by rfl) ?_
        rintro _ rfl _ rfl _ rfl _ rfl _ rfl _ rfl _ rfl _ rfl _ rfl _ rfl
        refine R.cy (Try.call67) (cmpV_spec x y) ?_
        refine R.cm ?_
        refine R.nt ?_
        refine R.nl ?_
        refine R.hs (e' := [(0, _), (2, _), (4, _), (14, _), (15, _), (16, _), (103, _)]) ?_
        refine R.cd (fun zc44 => ?_) (fun zc44 => ?_)
        ·
          refine R.rg ?_
          refine R.mv ?_
          refine R.ad ?_
          refine R.as ?_
          refine R.nl ?_
          refine R.hs (e' := [(0, _), (2, _), (4, _), (14, _), (15, _)]) ?_
          refine Run.endBlock ?_
          first | exact Run.again ((i + j) / 2 + 1, j) ⟨by simp <;> omega, by simp <;> omega, by simp <;> omega⟩ (by simp <;> omega) (by refine ⟨rfl, rfl, ?_⟩; repeat (first | exact trivial | refine ⟨rfl, ?_⟩)) (fun w hs => hs) | exact Run.again (i, (i + j) / 2) ⟨by simp <;> omega, by simp <;> omega, by simp <;> omega⟩ (by simp <;> omega) (by refine ⟨rfl, rfl, ?_⟩; repeat (first | exact trivial | refine ⟨rfl, ?_⟩)) (fun w hs => hs)
        ·
          refine R.rg ?_
          refine R.mv ?_
          refine R.as ?_
          refine R.nl ?_
          refine R.hs (e' := [(0, _), (2, _), (4, _), (14, _), (15, _)]) ?_
          refine Run.endBlock ?_
          first | exact Run.again ((i + j) / 2 + 1, j) ⟨by simp <;> omega, by simp <;> omega, by simp <;> omega⟩ (by simp <;> omega) (by refine ⟨rfl, rfl, ?_⟩; repeat (first | exact trivial | refine ⟨rfl, ?_⟩)) (fun w hs => hs) | exact Run.again (i, (i + j) / 2) ⟨by simp <;> omega, by simp <;> omega, by simp <;> omega⟩ (by simp <;> omega) (by refine ⟨rfl, rfl, ?_⟩; repeat (first | exact trivial | refine ⟨rfl, ?_⟩)) (fun w hs => hs)
      ·
        refine Run.exit rfl ?_
        refine R.sq ?_
        refine R.sq ?_
        refine R.rg ?_
        refine R.mv ?_
        refine R.as ?_
        refine R.nl ?_
        refine R.hs (e' := [(0, _), (14, _), (17, _)]) ?_
        refine Run.block ?_
        refine Run.loop (ι := Int × List Vw × MList) [(0, _), (14, _)] (fun p => [(17, .int .i64 p.1)]) (fun _ => D) (fun p => p.2.2 ++ Z) (fun p => p.1 ≤ m ∧ p.2.1.Perm xs ∧ VR v p.2.1 p.2.2) (fun p => (p.1 - i).toNat) ((m, xs, q)) (by repeat (first | exact trivial | refine ⟨rfl, ?_⟩)) ?h0 (by repeat (first | exact trivial | refine ⟨rfl, ?_⟩)) (fun w hs => hs) ?_
        case h0 => exact ⟨by simp, List.Perm.refl _, ho⟩
        rintro ⟨c, ws, q1⟩ ⟨hac, hpw, hOw⟩
        simp only at hac hpw hOw
        have hwl := hpw.length_eq
        refine R.sq ?_
        refine R.sq ?_
        refine R.rg ?_
        refine R.mv ?_
        refine R.mv ?_
        refine R.cm ?_
        refine R.nl ?_
        refine R.hs (e' := [(0, _), (14, _), (17, _), (110, _)]) ?_
        refine R.cd (fun zc45 => ?_) (fun zc45 => ?_)
        ·
          have hlt : c > i := by simpa using zc45
          obtain ⟨x, hgx⟩ := get_of_lt (xs := ws) (i := c.toNat) (by omega)
          obtain ⟨y, hgy⟩ := get_of_lt (xs := ws) (i := (c - 1).toNat) (by omega)
          obtain ⟨b1, o1, hI1, hc1⟩ := hOw.ix (D := D) (Z := Z) hgx
          obtain ⟨b2, o2, hI2, hc2⟩ := hOw.ix (D := D) (Z := Z) hgy
          refine Run.skip ?_
          refine R.sq ?_
          refine Run.block ?_
          refine Run.drawX Grow.eq 16 15 (fun M' => ∃ q2, VR v (ws.set c.toNat y) q2 ∧ M' = q2 ++ Z) [(0, _), (14, _), (17, _)] mix (by kernel_rfl) (by repeat (first | exact trivial | refine ⟨rfl, ?_⟩)) ?_
          apply TX.val []
          · exact rfl
          · kernel_rfl
          ·
            rintro _ rfl 
            refine R.mv ?_
            refine R.nl ?_
            exact Run.loc rfl rfl rfl
          apply TX.val []
          · exact rfl
          · kernel_rfl
          ·
            rintro _ rfl 
            refine R.mv ?_
            refine R.nl ?_
            exact Run.loc rfl rfl rfl
          apply TX.late []
          · exact rfl
          · kernel_rfl
          ·
            intro zM hzM
            rintro _ rfl 
            refine R.mv ?_
            refine R.nl ?_
            exact Run.loc rfl rfl rfl
          apply TX.late []
          · exact rfl
          · kernel_rfl
          ·
            intro zM hzM
            rintro _ rfl 
            refine R.mv ?_
            refine R.nl ?_
            exact Run.loc rfl rfl rfl
          apply TX.late [0]
          · exact rfl
          · kernel_rfl
          ·
            intro zM hzM
            rintro _ rfl _ rfl
            refine R.sb ?_
            refine R.nl ?_
            exact Run.loc rfl rfl rfl
          apply TX.val []
          · exact rfl
          · kernel_rfl
          ·
            rintro _ rfl 
            refine R.mv ?_
            refine R.nl ?_
            exact Run.loc rfl rfl rfl
          apply TX.val []
          · exact rfl
          · kernel_rfl
          ·
            rintro _ rfl 
            refine R.mv ?_
            refine R.nl ?_
            exact Run.loc rfl rfl rfl
          apply TX.val [0]
          · exact rfl
          · kernel_rfl
          ·
            rintro _ rfl _ rfl
            refine R.sb ?_
            refine R.nl ?_
            exact Run.loc rfl rfl rfl
          apply TX.val [2, 0]
          · exact rfl
          · kernel_rfl
          ·
            rintro _ rfl _ rfl _ rfl
            refine R.ix (hI2) Try.runUnderlying73 Try.sizeOf75 ?_
            refine R.nl ?_
            exact Run.loc rfl rfl rfl
          apply TX.val [0]
          · exact rfl
          · kernel_rfl
          ·
            rintro _ rfl _ rfl
            refine R.lAD 7 Try.isAgg75 Try.sizeOf75 ?_
            refine R.nl ?_
            exact Run.loc rfl rfl rfl
          apply TX.val []
          · exact rfl
          · kernel_rfl
          ·
            rintro _ rfl 
            refine R.mv ?_
            refine R.nl ?_
            exact Run.loc rfl rfl rfl
          apply TX.val []
          · exact rfl
          · kernel_rfl
          ·
            rintro _ rfl 
            refine R.mv ?_
            refine R.nl ?_
            exact Run.loc rfl rfl rfl
          apply TX.val [1, 0]
          · exact rfl
          · kernel_rfl
          ·
            rintro _ rfl _ rfl _ rfl
            refine R.ix (hI1) Try.runUnderlying73 Try.sizeOf75 ?_
            refine R.nl ?_
            exact Run.loc rfl rfl rfl
          apply TX.val [0]
          · exact rfl
          · kernel_rfl
          ·
            rintro _ rfl _ rfl
            refine R.lAD 7 Try.isAgg75 Try.sizeOf75 ?_
            refine R.nl ?_
            exact Run.loc rfl rfl rfl
          apply TX.val [13, 12]
          · exact rfl
          · kernel_rfl
          ·
            rintro _ rfl _ rfl _ rfl
            refine R.ix (hI1) Try.runUnderlying73 Try.sizeOf75 ?_
            refine R.nl ?_
            exact Run.loc rfl rfl rfl
          apply TX.eff [5, 0]
          · exact rfl
          · kernel_rfl
          ·
            rintro _ rfl _ rfl _ rfl
            refine R.so y hOw hI1 Vw.len Try.sizeOf75 (fun q2 hO2 => ?_)
            refine R.nl ?_
            exact Run.effd rfl (⟨q2, hO2, rfl⟩)
          refine TX.fin (by rfl) ?_
          rintro zM ⟨q2, hO2, rfl⟩
          rintro _ rfl  _ rfl _ rfl _ rfl _ rfl _ rfl _ rfl _ rfl _ rfl _ rfl _ rfl _ rfl _ rfl _ rfl _ rfl _ rfl
          refine R.ix (hI2) Try.runUnderlying73 Try.sizeOf75 ?_
          refine R.so x hO2 hI2 Vw.len Try.sizeOf75 (fun q3 hO3 => ?_)
          refine R.nl ?_
          refine R.hs (e' := [(0, _), (14, _), (17, _)]) ?_
          refine Run.endBlock ?_
          refine R.rg ?_
          refine R.mv ?_
          refine R.sb ?_
          refine R.as ?_
          refine R.nl ?_
          refine R.hs (e' := [(0, _), (14, _), (17, _)]) ?_
          exact Run.again (c - 1, _, q3) ⟨by simp <;> omega, (swap_perm hgx hgy).trans hpw, hO3⟩ (by simp <;> omega) (by repeat (first | exact trivial | refine ⟨rfl, ?_⟩)) (fun w hs => hs)
        ·
          refine Run.exit rfl ?_
          first
            | exact R.rk (u := .tuple #[]) .nil 0 ⟨rfl, ws, q1, hOw, hpw, rfl⟩
            | exact R.fn (u := .tuple #[]) .nil 0 ⟨rfl, _, _, hOc, hpx, rfl⟩
    ·
      have hbm : b - m ≠ 1 := by simpa using zc32
      refine Run.skip ?_
      refine R.sq ?_
      obtain ⟨mid, hmid⟩ : ∃ mid, (a + b) / 2 = mid := ⟨_, rfl⟩
      refine R.rg ?_
      refine R.mv ?_
      refine R.mv ?_
      refine R.ad ?_
      refine R.cv Try.runUnderlying3 Try.runUnderlying71 (wrapU (show 0 ≤ a + b by omega) (show a + b ≤ 18446744073709551615 by omega)) ?_
      refine R.sr ((half_u64 (show 0 ≤ a + b by omega)).trans hmid) ?_
      refine R.cv Try.runUnderlying71 Try.runUnderlying3 (wrap_i64 (show -9223372036854775808 ≤ mid by omega) (show mid ≤ 9223372036854775807 by omega)) ?_
      refine R.as ?_
      refine R.nl ?_
      refine R.hs (e' := [(0, _), (1, _), (2, _), (3, _), (4, _), (18, _)]) ?_
      refine R.sq ?_
      refine R.rg ?_
      refine R.mv ?_
      refine R.mv ?_
      refine R.ad ?_
      refine R.as ?_
      refine R.nl ?_
      refine R.hs (e' := [(0, _), (1, _), (2, _), (3, _), (4, _), (18, _), (19, _)]) ?_
      refine R.sq ?_
      refine R.rg ?_
      refine R.as ?_
      refine R.as ?_
      refine R.nl ?_
      refine R.hs (e' := [(0, _), (1, _), (2, _), (3, _), (4, _), (18, _), (19, _)]) ?_
      refine R.sq ?_
      refine R.sq ?_
      refine R.rg ?_
      refine R.mv ?_
      refine R.mv ?_
      refine R.cm ?_
      refine R.nl ?_
      refine R.hs (e' := [(0, _), (1, _), (2, _), (3, _), (4, _), (18, _), (19, _), (140, _)]) ?_
      refine R.cd (fun zc63 => ?_) (fun zc63 => ?_)
      ·
        have hmm : m > mid := by simpa using zc63
        refine R.sq ?_
        refine R.rg ?_
        refine R.mv ?_
        refine R.mv ?_
        refine R.sb ?_
        refine R.as ?_
        refine R.nl ?_
        refine R.hs (e' := [(0, _), (1, _), (2, _), (3, _), (4, _), (18, _), (19, _), (20, _)]) ?_
        refine R.rg ?_
        refine R.mv ?_
        refine R.as ?_
        refine R.nl ?_
        refine R.hs (e' := [(0, _), (1, _), (2, _), (3, _), (4, _), (18, _), (19, _), (20, _), (21, _)]) ?_
        refine R.sq ?_
        refine R.rg ?_
        refine R.mv ?_
        refine R.sb ?_
        refine R.as ?_
        refine R.nl ?_
        refine R.hs (e' := [(0, _), (1, _), (2, _), (3, _), (4, _), (18, _), (19, _), (20, _), (21, _), (22, _)]) ?_
        refine R.sq ?_
        refine Run.block ?_
        refine Run.loop (ι := Int × Int) [(0, _), (1, _), (2, _), (3, _), (4, _), (18, _), (19, _), (22, _)] (fun p => [(20, .int .i64 p.1), (21, .int .i64 p.2)]) (fun _ => D) (fun _ => q ++ Z) (fun p => a ≤ p.1 ∧ p.1 ≤ p.2 ∧ p.2 ≤ b ∧ mid + m - p.1 ≤ b ∧ a ≤ mid + m - p.2) (fun p => (p.2 - p.1).toNat) ((by first | exact (fun _ : m > mid => (mid + m - b, mid)) hmm | exact (a, m))) (by repeat (first | exact trivial | refine ⟨rfl, ?_⟩)) ?h0 (by repeat (first | exact trivial | refine ⟨rfl, ?_⟩)) (fun w hs => hs) ?_
        case h0 => exact ⟨by simp <;> omega, by simp <;> omega, by simp <;> omega, by simp <;> omega, by simp <;> omega⟩
        rintro ⟨s, r⟩ ⟨hs0, hsr, hr0, hs1, hr1⟩
        simp only at hs0 hsr hr0 hs1 hr1
        refine R.sq ?_
        refine R.sq ?_
        refine R.rg ?_
        refine R.mv ?_
        refine R.mv ?_
        refine R.cm ?_
        refine R.nl ?_
        refine R.hs (e' := [(0, _), (1, _), (2, _), (3, _), (4, _), (18, _), (19, _), (20, _), (21, _), (22, _), (151, _)]) ?_
        refine R.cd (fun zc64 => ?_) (fun zc64 => ?_)
        ·
          have hlt : s < r := by simpa using zc64
          obtain ⟨x, hgx⟩ := get_of_lt (xs := xs) (i := (mid + m - 1 - (s + r) / 2).toNat) (by omega)
          obtain ⟨y, hgy⟩ := get_of_lt (xs := xs) (i := ((s + r) / 2).toNat) (by omega)
          obtain ⟨b1, o1, hI1, hc1⟩ := ho.ix (D := D) (Z := Z) hgx
          obtain ⟨b2, o2, hI2, hc2⟩ := ho.ix (D := D) (Z := Z) hgy
          refine Run.skip ?_
          refine Run.block ?_
          refine R.sq ?_
          refine R.rg ?_
          refine R.mv ?_
          refine R.mv ?_
          refine R.ad ?_
          refine R.cv Try.runUnderlying3 Try.runUnderlying71 (wrapU (show 0 ≤ s + r by omega) (show s + r ≤ 18446744073709551615 by omega)) ?_
          refine R.sr (half_u64 (show 0 ≤ s + r by omega)) ?_
          refine R.cv Try.runUnderlying71 Try.runUnderlying3 (wrap_i64 (show -9223372036854775808 ≤ (s + r) / 2 by omega) (show (s + r) / 2 ≤ 9223372036854775807 by omega)) ?_
          refine R.as ?_
          refine R.nl ?_
          refine R.hs (e' := [(0, _), (1, _), (2, _), (3, _), (4, _), (18, _), (19, _), (20, _), (21, _), (22, _), (23, _)]) ?_
          refine R.sq ?_
          refine Run.drawC Grow.eq 11 [(0, _), (1, _), (2, _), (3, _), (4, _), (18, _), (19, _), (20, _), (21, _), (22, _), (23, _)] mix (by kernel_rfl) (by repeat (first | exact trivial | refine ⟨rfl, ?_⟩)) ?_
          apply TC.val []
          · exact rfl
          · kernel_rfl
          ·
            rintro _ rfl 
            refine R.mv ?_
            refine R.nl ?_
            exact Run.loc rfl rfl rfl
          apply TC.val []
          · exact rfl
          · kernel_rfl
          ·
            rintro _ rfl 
            refine R.mv ?_
            refine R.nl ?_
            exact Run.loc rfl rfl rfl
          apply TC.val []
          · exact rfl
          · kernel_rfl
          ·
            rintro _ rfl 
            refine R.mv ?_
            refine R.nl ?_
            exact Run.loc rfl rfl rfl
          apply TC.val []
          · exact rfl
          · kernel_rfl
          ·
            rintro _ rfl 
            refine R.mv ?_
            refine R.nl ?_
            exact Run.loc rfl rfl rfl
          apply TC.val [1, 0]
          · exact rfl
          · kernel_rfl
          ·
            rintro _ rfl _ rfl _ rfl
            refine R.sb ?_
            refine R.nl ?_
            exact Run.loc rfl rfl rfl
          apply TC.val [3, 0]
          · exact rfl
          · kernel_rfl
          ·
            rintro _ rfl _ rfl _ rfl
            refine R.ix (hI1) Try.runUnderlying73 Try.sizeOf75 ?_
            refine R.nl ?_
            exact Run.loc rfl rfl rfl
          apply TC.val [0]
          · exact rfl
          · kernel_rfl
          ·
            rintro _ rfl _ rfl
            refine R.lAD 7 Try.isAgg75 Try.sizeOf75 ?_
            refine R.nl ?_
            exact Run.loc rfl rfl rfl
          apply TC.val []
          · exact rfl
          · kernel_rfl
          ·
            rintro _ rfl 
            refine R.mv ?_
            refine R.nl ?_
            exact Run.loc rfl rfl rfl
          apply TC.val []
          · exact rfl
          · kernel_rfl
          ·
            rintro _ rfl 
            refine R.mv ?_
            refine R.nl ?_
            exact Run.loc rfl rfl rfl
          apply TC.val [1, 0]
          · exact rfl
          · kernel_rfl
          ·
            rintro _ rfl _ rfl _ rfl
            refine R.ix (hI2) Try.runUnderlying73 Try.sizeOf75 ?_
            refine R.nl ?_
            exact Run.loc rfl rfl rfl
          apply TC.val [0]
          · exact rfl
          · kernel_rfl
          ·
            rintro _ rfl _ rfl
            refine R.lAD 7 Try.isAgg75 Try.sizeOf75 ?_
            refine R.nl ?_
            exact Run.loc rfl rfl rfl
          refine TC.fin (by rfl) ?_
          rintro _ rfl _ rfl _ rfl _ rfl _ rfl _ rfl _ rfl _ rfl _ rfl _ rfl _ rfl _ rfl
          refine R.cy (Try.call67) (cmpV_spec x y) ?_
          refine R.cm ?_
          refine R.nt ?_
          refine R.nl ?_
          refine R.hs (e' := [(0, _), (1, _), (2, _), (3, _), (4, _), (18, _), (19, _), (20, _), (21, _), (22, _), (23, _), (171, _)]) ?_
          refine R.cd (fun zc77 => ?_) (fun zc77 => ?_)
          ·
            refine R.rg ?_
            refine R.mv ?_
            refine R.ad ?_
            refine R.as ?_
            refine R.nl ?_
            refine R.hs (e' := [(0, _), (1, _), (2, _), (3, _), (4, _), (18, _), (19, _), (20, _), (21, _), (22, _)]) ?_
            refine Run.endBlock ?_
            first | exact Run.again ((s + r) / 2 + 1, r) ⟨by simp <;> omega, by simp <;> omega, by simp <;> omega, by simp <;> omega, by simp <;> omega⟩ (by simp <;> omega) (by refine ⟨rfl, rfl, ?_⟩; repeat (first | exact trivial | refine ⟨rfl, ?_⟩)) (fun w hs => hs) | exact Run.again (s, (s + r) / 2) ⟨by simp <;> omega, by simp <;> omega, by simp <;> omega, by simp <;> omega, by simp <;> omega⟩ (by simp <;> omega) (by refine ⟨rfl, rfl, ?_⟩; repeat (first | exact trivial | refine ⟨rfl, ?_⟩)) (fun w hs => hs)
          ·
            refine R.rg ?_
            refine R.mv ?_
            refine R.as ?_
            refine R.nl ?_
            refine R.hs (e' := [(0, _), (1, _), (2, _), (3, _), (4, _), (18, _), (19, _), (20, _), (21, _), (22, _)]) ?_
            refine Run.endBlock ?_
            first | exact Run.again ((s + r) / 2 + 1, r) ⟨by simp <;> omega, by simp <;> omega, by simp <;> omega, by simp <;> omega, by simp <;> omega⟩ (by simp <;> omega) (by refine ⟨rfl, rfl, ?_⟩; repeat (first | exact trivial | refine ⟨rfl, ?_⟩)) (fun w hs => hs) | exact Run.again (s, (s + r) / 2) ⟨by simp <;> omega, by simp <;> omega, by simp <;> omega, by simp <;> omega, by simp <;> omega⟩ (by simp <;> omega) (by refine ⟨rfl, rfl, ?_⟩; repeat (first | exact trivial | refine ⟨rfl, ?_⟩)) (fun w hs => hs)
        ·
          have hge : s = r := by simp at zc64; omega
          have hOc := ho
          have hpx := List.Perm.refl xs
          have hlx := hpx.length_eq
          refine Run.exit rfl ?_
          refine R.sq ?_
          refine R.rg ?_
          refine R.mv ?_
          refine R.mv ?_
          refine R.sb ?_
          refine R.as ?_
          refine R.nl ?_
          refine R.hs (e' := [(0, _), (1, _), (2, _), (3, _), (4, _), (18, _), (20, _), (24, _)]) ?_
          refine R.sq ?_
          refine R.sq ?_
          refine R.rg ?_
          refine R.mv ?_
          refine R.mv ?_
          refine R.cm ?_
          refine R.mv ?_
          refine R.gd (fun zg78 => ?_) (fun zg78 => ?_)
          ·
            refine R.mv ?_
            refine R.gY (zg78) ?_
            refine R.mv ?_
            refine R.gY (zg78) ?_
            refine R.cm ?_
            refine R.pT (zg78) ?_
            refine R.nl ?_
            refine R.hs (e' := [(0, _), (1, _), (2, _), (3, _), (4, _), (18, _), (20, _), (24, _), (185, _)]) ?_
            refine R.cd (fun zc79 => ?_) (fun zc79 => ?_)
            ·
              have hsm : s < m ∧ m < mid + m - s := by simp_all
              refine R.rg ?_
              refine R.mv ?_
              refine R.mv ?_
              refine R.mv ?_
              refine R.mv ?_
              refine R.mv ?_
              refine R.ca Try.call91 (rotate_spec s m (mid + m - s) (by omega) (by omega) (by omega) (by omega) (by omega) hOc) ?_
              rintro _ _ _ ⟨rfl, zs', q', hO', hp', rfl⟩
              have hOc := hO'
              have hpx := hp'.trans hpx
              have hlx := hpx.length_eq
              refine R.nl ?_
              refine R.hs (e' := [(0, _), (1, _), (3, _), (4, _), (18, _), (20, _), (24, _)]) ?_
              refine R.sq ?_
              refine R.sq ?_
              refine R.rg ?_
              refine R.mv ?_
              refine R.mv ?_
              refine R.cm ?_
              refine R.mv ?_
              refine R.gd (fun zg80 => ?_) (fun zg80 => ?_)
              ·
                refine R.mv ?_
                refine R.gY (zg80) ?_
                refine R.mv ?_
                refine R.gY (zg80) ?_
                refine R.cm ?_
                refine R.pT (zg80) ?_
                refine R.nl ?_
                refine R.hs (e' := [(0, _), (1, _), (3, _), (4, _), (18, _), (20, _), (24, _), (199, _)]) ?_
                refine R.cd (fun zc81 => ?_) (fun zc81 => ?_)
                ·
                  have hsm : a < s ∧ s < mid := by simp_all
                  refine R.rg ?_
                  refine R.mv ?_
                  refine R.mv ?_
                  refine R.mv ?_
                  refine R.mv ?_
                  refine R.mv ?_
                  refine R.ca Try.call85 (ih ((mid - a).toNat) (by omega) a s mid rfl (by omega) (by omega) (by omega) (by omega) (by omega) hOc) ?_
                  rintro _ _ _ ⟨rfl, zs', q', hO', hp', rfl⟩
                  have hOc := hO'
                  have hpx := hp'.trans hpx
                  have hlx := hpx.length_eq
                  refine R.nl ?_
                  refine R.hs (e' := [(0, _), (3, _), (4, _), (18, _), (24, _)]) ?_
                  refine R.sq ?_
                  refine R.rg ?_
                  refine R.mv ?_
                  refine R.mv ?_
                  refine R.cm ?_
                  refine R.mv ?_
                  refine R.gd (fun zg82 => ?_) (fun zg82 => ?_)
                  ·
                    refine R.mv ?_
                    refine R.gY (zg82) ?_
                    refine R.mv ?_
                    refine R.gY (zg82) ?_
                    refine R.cm ?_
                    refine R.pT (zg82) ?_
                    refine R.nl ?_
                    refine R.hs (e' := [(0, _), (3, _), (4, _), (18, _), (24, _), (213, _)]) ?_
                    refine R.cd (fun zc83 => ?_) (fun zc83 => ?_)
                    ·
                      have hsm : mid < mid + m - s ∧ mid + m - s < b := by simp_all
                      refine R.rg ?_
                      refine R.mv ?_
                      refine R.mv ?_
                      refine R.mv ?_
                      refine R.mv ?_
                      refine R.mv ?_
                      refine R.ca Try.call85 (ih ((b - mid).toNat) (by omega) mid (mid + m - s) b rfl (by omega) (by omega) (by omega) (by omega) (by omega) hOc) ?_
                      rintro _ _ _ ⟨rfl, zs', q', hO', hp', rfl⟩
                      have hOc := hO'
                      have hpx := hp'.trans hpx
                      have hlx := hpx.length_eq
                      refine R.nl ?_
                      refine R.hs (e' := []) ?_
                      first
                        | exact R.rk (u := .tuple #[]) .nil 0 ⟨rfl, ws, q1, hOw, hpw, rfl⟩
                        | exact R.fn (u := .tuple #[]) .nil 0 ⟨rfl, _, _, hOc, hpx, rfl⟩
                    ·
                      refine Run.skip ?_
                      first
                        | exact R.rk (u := .tuple #[]) .nil 0 ⟨rfl, ws, q1, hOw, hpw, rfl⟩
                        | exact R.fn (u := .tuple #[]) .nil 0 ⟨rfl, _, _, hOc, hpx, rfl⟩
                  ·
                    refine R.gF (zg82) ?_
                    refine R.gF (zg82) ?_
                    refine R.pF (zg82) ?_
                    refine R.nl ?_
                    refine R.hs (e' := [(0, _), (3, _), (4, _), (18, _), (24, _), (213, _)]) ?_
                    refine R.cF (rfl) ?_
                    refine Run.skip ?_
                    first
                      | exact R.rk (u := .tuple #[]) .nil 0 ⟨rfl, ws, q1, hOw, hpw, rfl⟩
                      | exact R.fn (u := .tuple #[]) .nil 0 ⟨rfl, _, _, hOc, hpx, rfl⟩
                ·
                  refine Run.skip ?_
                  refine R.sq ?_
                  refine R.rg ?_
                  refine R.mv ?_
                  refine R.mv ?_
                  refine R.cm ?_
                  refine R.mv ?_
                  refine R.gd (fun zg84 => ?_) (fun zg84 => ?_)
                  ·
                    refine R.mv ?_
                    refine R.gY (zg84) ?_
                    refine R.mv ?_
                    refine R.gY (zg84) ?_
                    refine R.cm ?_
                    refine R.pT (zg84) ?_
                    refine R.nl ?_
                    refine R.hs (e' := [(0, _), (3, _), (4, _), (18, _), (24, _), (213, _)]) ?_
                    refine R.cd (fun zc85 => ?_) (fun zc85 => ?_)
                    ·
                      have hsm : mid < mid + m - s ∧ mid + m - s < b := by simp_all
                      refine R.rg ?_
                      refine R.mv ?_
                      refine R.mv ?_
                      refine R.mv ?_
                      refine R.mv ?_
                      refine R.mv ?_
                      refine R.ca Try.call85 (ih ((b - mid).toNat) (by omega) mid (mid + m - s) b rfl (by omega) (by omega) (by omega) (by omega) (by omega) hOc) ?_
                      rintro _ _ _ ⟨rfl, zs', q', hO', hp', rfl⟩
                      have hOc := hO'
                      have hpx := hp'.trans hpx
                      have hlx := hpx.length_eq
                      refine R.nl ?_
                      refine R.hs (e' := []) ?_
                      first
                        | exact R.rk (u := .tuple #[]) .nil 0 ⟨rfl, ws, q1, hOw, hpw, rfl⟩
                        | exact R.fn (u := .tuple #[]) .nil 0 ⟨rfl, _, _, hOc, hpx, rfl⟩
                    ·
                      refine Run.skip ?_
                      first
                        | exact R.rk (u := .tuple #[]) .nil 0 ⟨rfl, ws, q1, hOw, hpw, rfl⟩
                        | exact R.fn (u := .tuple #[]) .nil 0 ⟨rfl, _, _, hOc, hpx, rfl⟩
                  ·
                    refine R.gF (zg84) ?_
                    refine R.gF (zg84) ?_
                    refine R.pF (zg84) ?_
                    refine R.nl ?_
                    refine R.hs (e' := [(0, _), (3, _), (4, _), (18, _), (24, _), (213, _)]) ?_
                    refine R.cF (rfl) ?_
                    refine Run.skip ?_
                    first
                      | exact R.rk (u := .tuple #[]) .nil 0 ⟨rfl, ws, q1, hOw, hpw, rfl⟩
                      | exact R.fn (u := .tuple #[]) .nil 0 ⟨rfl, _, _, hOc, hpx, rfl⟩
              ·
                refine R.gF (zg80) ?_
                refine R.gF (zg80) ?_
                refine R.pF (zg80) ?_
                refine R.nl ?_
                refine R.hs (e' := [(0, _), (1, _), (3, _), (4, _), (18, _), (20, _), (24, _), (199, _)]) ?_
                refine R.cF (rfl) ?_
                refine Run.skip ?_
                refine R.sq ?_
                refine R.rg ?_
                refine R.mv ?_
                refine R.mv ?_
                refine R.cm ?_
                refine R.mv ?_
                refine R.gd (fun zg86 => ?_) (fun zg86 => ?_)
                ·
                  refine R.mv ?_
                  refine R.gY (zg86) ?_
                  refine R.mv ?_
                  refine R.gY (zg86) ?_
                  refine R.cm ?_
                  refine R.pT (zg86) ?_
                  refine R.nl ?_
                  refine R.hs (e' := [(0, _), (3, _), (4, _), (18, _), (24, _), (213, _)]) ?_
                  refine R.cd (fun zc87 => ?_) (fun zc87 => ?_)
                  ·
                    have hsm : mid < mid + m - s ∧ mid + m - s < b := by simp_all
                    refine R.rg ?_
                    refine R.mv ?_
                    refine R.mv ?_
                    refine R.mv ?_
                    refine R.mv ?_
                    refine R.mv ?_
                    refine R.ca Try.call85 (ih ((b - mid).toNat) (by omega) mid (mid + m - s) b rfl (by omega) (by omega) (by omega) (by omega) (by omega) hOc) ?_
                    rintro _ _ _ ⟨rfl, zs', q', hO', hp', rfl⟩
                    have hOc := hO'
                    have hpx := hp'.trans hpx
                    have hlx := hpx.length_eq
                    refine R.nl ?_
                    refine R.hs (e' := []) ?_
                    first
                      | exact R.rk (u := .tuple #[]) .nil 0 ⟨rfl, ws, q1, hOw, hpw, rfl⟩
                      | exact R.fn (u := .tuple #[]) .nil 0 ⟨rfl, _, _, hOc, hpx, rfl⟩
                  ·
                    refine Run.skip ?_
                    first
                      | exact R.rk (u := .tuple #[]) .nil 0 ⟨rfl, ws, q1, hOw, hpw, rfl⟩
                      | exact R.fn (u := .tuple #[]) .nil 0 ⟨rfl, _, _, hOc, hpx, rfl⟩
                ·
                  refine R.gF (zg86) ?_
                  refine R.gF (zg86) ?_
                  refine R.pF (zg86) ?_
                  refine R.nl ?_
                  refine R.hs (e' := [(0, _), (3, _), (4, _), (18, _), (24, _), (213, _)]) ?_
                  refine R.cF (rfl) ?_
                  refine Run.skip ?_
                  first
                    | exact R.rk (u := .tuple #[]) .nil 0 ⟨rfl, ws, q1, hOw, hpw, rfl⟩
                    | exact R.fn (u := .tuple #[]) .nil 0 ⟨rfl, _, _, hOc, hpx, rfl⟩
            ·
              refine Run.skip ?_
              refine R.sq ?_
              refine R.sq ?_
              refine R.rg ?_
              refine R.mv ?_
              refine R.mv ?_
              refine R.cm ?_
              refine R.mv ?_
              refine R.gd (fun zg88 => ?_) (fun zg88 => ?_)
              ·
                refine R.mv ?_
                refine R.gY (zg88) ?_
                refine R.mv ?_
                refine R.gY (zg88) ?_
                refine R.cm ?_
                refine R.pT (zg88) ?_
                refine R.nl ?_
                refine R.hs (e' := [(0, _), (1, _), (3, _), (4, _), (18, _), (20, _), (24, _), (199, _)]) ?_
                refine R.cd (fun zc89 => ?_) (fun zc89 => ?_)
                ·
                  have hsm : a < s ∧ s < mid := by simp_all
                  refine R.rg ?_
                  refine R.mv ?_
                  refine R.mv ?_
                  refine R.mv ?_
                  refine R.mv ?_
                  refine R.mv ?_
                  refine R.ca Try.call85 (ih ((mid - a).toNat) (by omega) a s mid rfl (by omega) (by omega) (by omega) (by omega) (by omega) hOc) ?_
                  rintro _ _ _ ⟨rfl, zs', q', hO', hp', rfl⟩
                  have hOc := hO'
                  have hpx := hp'.trans hpx
                  have hlx := hpx.length_eq
                  refine R.nl ?_
                  refine R.hs (e' := [(0, _), (3, _), (4, _), (18, _), (24, _)]) ?_
                  refine R.sq ?_
                  refine R.rg ?_
                  refine R.mv ?_
                  refine R.mv ?_
                  refine R.cm ?_
                  refine R.mv ?_
                  refine R.gd (fun zg90 => ?_) (fun zg90 => ?_)
                  ·
                    refine R.mv ?_
                    refine R.gY (zg90) ?_
                    refine R.mv ?_
                    refine R.gY (zg90) ?_
                    refine R.cm ?_
                    refine R.pT (zg90) ?_
                    refine R.nl ?_
                    refine R.hs (e' := [(0, _), (3, _), (4, _), (18, _), (24, _), (213, _)]) ?_
                    refine R.cd (fun zc91 => ?_) (fun zc91 => ?_)
                    ·
                      have hsm : mid < mid + m - s ∧ mid + m - s < b := by simp_all
                      refine R.rg ?_
                      refine R.mv ?_
                      refine R.mv ?_
                      refine R.mv ?_
                      refine R.mv ?_
                      refine R.mv ?_
                      refine R.ca Try.call85 (ih ((b - mid).toNat) (by omega) mid (mid + m - s) b rfl (by omega) (by omega) (by omega) (by omega) (by omega) hOc) ?_
                      rintro _ _ _ ⟨rfl, zs', q', hO', hp', rfl⟩
                      have hOc := hO'
                      have hpx := hp'.trans hpx
                      have hlx := hpx.length_eq
                      refine R.nl ?_
                      refine R.hs (e' := []) ?_
                      first
                        | exact R.rk (u := .tuple #[]) .nil 0 ⟨rfl, ws, q1, hOw, hpw, rfl⟩
                        | exact R.fn (u := .tuple #[]) .nil 0 ⟨rfl, _, _, hOc, hpx, rfl⟩
                    ·
                      refine Run.skip ?_
                      first
                        | exact R.rk (u := .tuple #[]) .nil 0 ⟨rfl, ws, q1, hOw, hpw, rfl⟩
                        | exact R.fn (u := .tuple #[]) .nil 0 ⟨rfl, _, _, hOc, hpx, rfl⟩
                  ·
                    refine R.gF (zg90) ?_
                    refine R.gF (zg90) ?_
                    refine R.pF (zg90) ?_
                    refine R.nl ?_
                    refine R.hs (e' := [(0, _), (3, _), (4, _), (18, _), (24, _), (213, _)]) ?_
                    refine R.cF (rfl) ?_
                    refine Run.skip ?_
                    first
                      | exact R.rk (u := .tuple #[]) .nil 0 ⟨rfl, ws, q1, hOw, hpw, rfl⟩
                      | exact R.fn (u := .tuple #[]) .nil 0 ⟨rfl, _, _, hOc, hpx, rfl⟩
                ·
                  refine Run.skip ?_
                  refine R.sq ?_
                  refine R.rg ?_
                  refine R.mv ?_
                  refine R.mv ?_
                  refine R.cm ?_
                  refine R.mv ?_
                  refine R.gd (fun zg92 => ?_) (fun zg92 => ?_)
                  ·
                    refine R.mv ?_
                    refine R.gY (zg92) ?_
                    refine R.mv ?_
                    refine R.gY (zg92) ?_
                    refine R.cm ?_
                    refine R.pT (zg92) ?_
                    refine R.nl ?_
                    refine R.hs (e' := [(0, _), (3, _), (4, _), (18, _), (24, _), (213, _)]) ?_
                    refine R.cd (fun zc93 => ?_) (fun zc93 => ?_)
                    ·
                      have hsm : mid < mid + m - s ∧ mid + m - s < b := by simp_all
                      refine R.rg ?_
                      refine R.mv ?_
                      refine R.mv ?_
                      refine R.mv ?_
                      refine R.mv ?_
                      refine R.mv ?_
                      refine R.ca Try.call85 (ih ((b - mid).toNat) (by omega) mid (mid + m - s) b rfl (by omega) (by omega) (by omega) (by omega) (by omega) hOc) ?_
                      rintro _ _ _ ⟨rfl, zs', q', hO', hp', rfl⟩
                      have hOc := hO'
                      have hpx := hp'.trans hpx
                      have hlx := hpx.length_eq
                      refine R.nl ?_
                      refine R.hs (e' := []) ?_
                      first
                        | exact R.rk (u := .tuple #[]) .nil 0 ⟨rfl, ws, q1, hOw, hpw, rfl⟩
                        | exact R.fn (u := .tuple #[]) .nil 0 ⟨rfl, _, _, hOc, hpx, rfl⟩
                    ·
                      refine Run.skip ?_
                      first
                        | exact R.rk (u := .tuple #[]) .nil 0 ⟨rfl, ws, q1, hOw, hpw, rfl⟩
                        | exact R.fn (u := .tuple #[]) .nil 0 ⟨rfl, _, _, hOc, hpx, rfl⟩
                  ·
                    refine R.gF (zg92) ?_
                    refine R.gF (zg92) ?_
                    refine R.pF (zg92) ?_
                    refine R.nl ?_
                    refine R.hs (e' := [(0, _), (3, _), (4, _), (18, _), (24, _), (213, _)]) ?_
                    refine R.cF (rfl) ?_
                    refine Run.skip ?_
                    first
                      | exact R.rk (u := .tuple #[]) .nil 0 ⟨rfl, ws, q1, hOw, hpw, rfl⟩
                      | exact R.fn (u := .tuple #[]) .nil 0 ⟨rfl, _, _, hOc, hpx, rfl⟩
              ·
                refine R.gF (zg88) ?_
                refine R.gF (zg88) ?_
                refine R.pF (zg88) ?_
                refine R.nl ?_
                refine R.hs (e' := [(0, _), (1, _), (3, _), (4, _), (18, _), (20, _), (24, _), (199, _)]) ?_
                refine R.cF (rfl) ?_
                refine Run.skip ?_
                refine R.sq ?_
                refine R.rg ?_
                refine R.mv ?_
                refine R.mv ?_
                refine R.cm ?_
                refine R.mv ?_
                refine R.gd (fun zg94 => ?_) (fun zg94 => ?_)
                ·
                  refine R.mv ?_
                  refine R.gY (zg94) ?_
                  refine R.mv ?_
                  refine R.gY (zg94) ?_
                  refine R.cm ?_
                  refine R.pT (zg94) ?_
                  refine R.nl ?_
                  refine R.hs (e' := [(0, _), (3, _), (4, _), (18, _), (24, _), (213, _)]) ?_
                  refine R.cd (fun zc95 => ?_) (fun zc95 => ?_)
                  ·
                    have hsm : mid < mid + m - s ∧ mid + m - s < b := by simp_all
                    refine R.rg ?_
                    refine R.mv ?_
                    refine R.mv ?_
                    refine R.mv ?_
                    refine R.mv ?_
                    refine R.mv ?_
                    refine R.ca Try.call85 (ih ((b - mid).toNat) (by omega) mid (mid + m - s) b rfl (by omega) (by omega) (by omega) (by omega) (by omega) hOc) ?_
                    rintro _ _ _ ⟨rfl, zs', q', hO', hp', rfl⟩
                    have hOc := hO'
                    have hpx := hp'.trans hpx
                    have hlx := hpx.length_eq
                    refine R.nl ?_
                    refine R.hs (e' := []) ?_
                    first
                      | exact R.rk (u := .tuple #[]) .nil 0 ⟨rfl, ws, q1, hOw, hpw, rfl⟩
                      | exact R.fn (u := .tuple #[]) .nil 0 ⟨rfl, _, _, hOc, hpx, rfl⟩
                  ·
                    refine Run.skip ?_
                    first
                      | exact R.rk (u := .tuple #[]) .nil 0 ⟨rfl, ws, q1, hOw, hpw, rfl⟩
                      | exact R.fn (u := .tuple #[]) .nil 0 ⟨rfl, _, _, hOc, hpx, rfl⟩
                ·
                  refine R.gF (zg94) ?_
                  refine R.gF (zg94) ?_
                  refine R.pF (zg94) ?_
                  refine R.nl ?_
                  refine R.hs (e' := [(0, _), (3, _), (4, _), (18, _), (24, _), (213, _)]) ?_
                  refine R.cF (rfl) ?_
                  refine Run.skip ?_
                  first
                    | exact R.rk (u := .tuple #[]) .nil 0 ⟨rfl, ws, q1, hOw, hpw, rfl⟩
                    | exact R.fn (u := .tuple #[]) .nil 0 ⟨rfl, _, _, hOc, hpx, rfl⟩
          ·
            refine R.gF (zg78) ?_
            refine R.gF (zg78) ?_
            refine R.pF (zg78) ?_
            refine R.nl ?_
            refine R.hs (e' := [(0, _), (1, _), (2, _), (3, _), (4, _), (18, _), (20, _), (24, _), (185, _)]) ?_
            refine R.cF (rfl) ?_
            refine Run.skip ?_
            refine R.sq ?_
            refine R.sq ?_
            refine R.rg ?_
            refine R.mv ?_
            refine R.mv ?_
            refine R.cm ?_
            refine R.mv ?_
            refine R.gd (fun zg96 => ?_) (fun zg96 => ?_)
            ·
              refine R.mv ?_
              refine R.gY (zg96) ?_
              refine R.mv ?_
              refine R.gY (zg96) ?_
              refine R.cm ?_
              refine R.pT (zg96) ?_
              refine R.nl ?_
              refine R.hs (e' := [(0, _), (1, _), (3, _), (4, _), (18, _), (20, _), (24, _), (199, _)]) ?_
              refine R.cd (fun zc97 => ?_) (fun zc97 => ?_)
              ·
                have hsm : a < s ∧ s < mid := by simp_all
                refine R.rg ?_
                refine R.mv ?_
                refine R.mv ?_
                refine R.mv ?_
                refine R.mv ?_
                refine R.mv ?_
                refine R.ca Try.call85 (ih ((mid - a).toNat) (by omega) a s mid rfl (by omega) (by omega) (by omega) (by omega) (by omega) hOc) ?_
                rintro _ _ _ ⟨rfl, zs', q', hO', hp', rfl⟩
                have hOc := hO'
                have hpx := hp'.trans hpx
                have hlx := hpx.length_eq
                refine R.nl ?_
                refine R.hs (e' := [(0, _), (3, _), (4, _), (18, _), (24, _)]) ?_
                refine R.sq ?_
                refine R.rg ?_
                refine R.mv ?_
                refine R.mv ?_
                refine R.cm ?_
                refine R.mv ?_
                refine R.gd (fun zg98 => ?_) (fun zg98 => ?_)
                ·
                  refine R.mv ?_
                  refine R.gY (zg98) ?_
                  refine R.mv ?_
                  refine R.gY (zg98) ?_
                  refine R.cm ?_
                  refine R.pT (zg98) ?_
                  refine R.nl ?_
                  refine R.hs (e' := [(0, _), (3, _), (4, _), (18, _), (24, _), (213, _)]) ?_
                  refine R.cd (fun zc99 => ?_) (fun zc99 => ?_)
                  ·
                    have hsm : mid < mid + m - s ∧ mid + m - s < b := by simp_all
                    refine R.rg ?_
                    refine R.mv ?_
                    refine R.mv ?_
                    refine R.mv ?_
                    refine R.mv ?_
                    refine R.mv ?_
                    refine R.ca Try.call85 (ih ((b - mid).toNat) (by omega) mid (mid + m - s) b rfl (by omega) (by omega) (by omega) (by omega) (by omega) hOc) ?_
                    rintro _ _ _ ⟨rfl, zs', q', hO', hp', rfl⟩
                    have hOc := hO'
                    have hpx := hp'.trans hpx
                    have hlx := hpx.length_eq
                    refine R.nl ?_
                    refine R.hs (e' := []) ?_
                    first
                      | exact R.rk (u := .tuple #[]) .nil 0 ⟨rfl, ws, q1, hOw, hpw, rfl⟩
                      | exact R.fn (u := .tuple #[]) .nil 0 ⟨rfl, _, _, hOc, hpx, rfl⟩
                  ·
                    refine Run.skip ?_
                    first
                      | exact R.rk (u := .tuple #[]) .nil 0 ⟨rfl, ws, q1, hOw, hpw, rfl⟩
                      | exact R.fn (u := .tuple #[]) .nil 0 ⟨rfl, _, _, hOc, hpx, rfl⟩
                ·
                  refine R.gF (zg98) ?_
                  refine R.gF (zg98) ?_
                  refine R.pF (zg98) ?_
                  refine R.nl ?_
                  refine R.hs (e' := [(0, _), (3, _), (4, _), (18, _), (24, _), (213, _)]) ?_
                  refine R.cF (rfl) ?_
                  refine Run.skip ?_
                  first
                    | exact R.rk (u := .tuple #[]) .nil 0 ⟨rfl, ws, q1, hOw, hpw, rfl⟩
                    | exact R.fn (u := .tuple #[]) .nil 0 ⟨rfl, _, _, hOc, hpx, rfl⟩
              ·
                refine Run.skip ?_
                refine R.sq ?_
                refine R.rg ?_
                refine R.mv ?_
                refine R.mv ?_
                refine R.cm ?_
                refine R.mv ?_
                refine R.gd (fun zg100 => ?_) (fun zg100 => ?_)
                ·
                  refine R.mv ?_
                  refine R.gY (zg100) ?_
                  refine R.mv ?_
                  refine R.gY (zg100) ?_
                  refine R.cm ?_
                  refine R.pT (zg100) ?_
                  refine R.nl ?_
                  refine R.hs (e' := [(0, _), (3, _), (4, _), (18, _), (24, _), (213, _)]) ?_
                  refine R.cd (fun zc101 => ?_) (fun zc101 => ?_)
                  ·
                    have hsm : mid < mid + m - s ∧ mid + m - s < b := by simp_all
                    refine R.rg ?_
                    refine R.mv ?_
                    refine R.mv ?_
                    refine R.mv ?_
                    refine R.mv ?_
                    refine R.mv ?_
                    refine R.ca Try.call85 (ih ((b - mid).toNat) (by omega) mid (mid + m - s) b rfl (by omega) (by omega) (by omega) (by omega) (by omega) hOc) ?_
                    rintro _ _ _ ⟨rfl, zs', q', hO', hp', rfl⟩
                    have hOc := hO'
                    have hpx := hp'.trans hpx
                    have hlx := hpx.length_eq
                    refine R.nl ?_
                    refine R.hs (e' := []) ?_
                    first
                      | exact R.rk (u := .tuple #[]) .nil 0 ⟨rfl, ws, q1, hOw, hpw, rfl⟩
                      | exact R.fn (u := .tuple #[]) .nil 0 ⟨rfl, _, _, hOc, hpx, rfl⟩
                  ·
                    refine Run.skip ?_
                    first
                      | exact R.rk (u := .tuple #[]) .nil 0 ⟨rfl, ws, q1, hOw, hpw, rfl⟩
                      | exact R.fn (u := .tuple #[]) .nil 0 ⟨rfl, _, _, hOc, hpx, rfl⟩
                ·
                  refine R.gF (zg100) ?_
                  refine R.gF (zg100) ?_
                  refine R.pF (zg100) ?_
                  refine R.nl ?_
                  refine R.hs (e' := [(0, _), (3, _), (4, _), (18, _), (24, _), (213, _)]) ?_
                  refine R.cF (rfl) ?_
                  refine Run.skip ?_
                  first
                    | exact R.rk (u := .tuple #[]) .nil 0 ⟨rfl, ws, q1, hOw, hpw, rfl⟩
                    | exact R.fn (u := .tuple #[]) .nil 0 ⟨rfl, _, _, hOc, hpx, rfl⟩
            ·
              refine R.gF (zg96) ?_
              refine R.gF (zg96) ?_
              refine R.pF (zg96) ?_
              refine R.nl ?_
              refine R.hs (e' := [(0, _), (1, _), (3, _), (4, _), (18, _), (20, _), (24, _), (199, _)]) ?_
              refine R.cF (rfl) ?_
              refine Run.skip ?_
              refine R.sq ?_
              refine R.rg ?_
              refine R.mv ?_
              refine R.mv ?_
              refine R.cm ?_
              refine R.mv ?_
              refine R.gd (fun zg102 => ?_) (fun zg102 => ?_)
              ·
                refine R.mv ?_
                refine R.gY (zg102) ?_
                refine R.mv ?_
                refine R.gY (zg102) ?_
                refine R.cm ?_
                refine R.pT (zg102) ?_
                refine R.nl ?_
                refine R.hs (e' := [(0, _), (3, _), (4, _), (18, _), (24, _), (213, _)]) ?_
                refine R.cd (fun zc103 => ?_) (fun zc103 => ?_)
                ·
                  have hsm : mid < mid + m - s ∧ mid + m - s < b := by simp_all
                  refine R.rg ?_
                  refine R.mv ?_
                  refine R.mv ?_
                  refine R.mv ?_
                  refine R.mv ?_
                  refine R.mv ?_
                  refine R.ca Try.call85 (ih ((b - mid).toNat) (by omega) mid (mid + m - s) b rfl (by omega) (by omega) (by omega) (by omega) (by omega) hOc) ?_
                  rintro _ _ _ ⟨rfl, zs', q', hO', hp', rfl⟩
                  have hOc := hO'
                  have hpx := hp'.trans hpx
                  have hlx := hpx.length_eq
                  refine R.nl ?_
                  refine R.hs (e' := []) ?_
                  first
                    | exact R.rk (u := .tuple #[]) .nil 0 ⟨rfl, ws, q1, hOw, hpw, rfl⟩
                    | exact R.fn (u := .tuple #[]) .nil 0 ⟨rfl, _, _, hOc, hpx, rfl⟩
                ·
                  refine Run.skip ?_
                  first
                    | exact R.rk (u := .tuple #[]) .nil 0 ⟨rfl, ws, q1, hOw, hpw, rfl⟩
                    | exact R.fn (u := .tuple #[]) .nil 0 ⟨rfl, _, _, hOc, hpx, rfl⟩
              ·
                refine R.gF (zg102) ?_
                refine R.gF (zg102) ?_
                refine R.pF (zg102) ?_
                refine R.nl ?_
                refine R.hs (e' := [(0, _), (3, _), (4, _), (18, _), (24, _), (213, _)]) ?_
                refine R.cF (rfl) ?_
                refine Run.skip ?_
                first
                  | exact R.rk (u := .tuple #[]) .nil 0 ⟨rfl, ws, q1, hOw, hpw, rfl⟩
                  | exact R.fn (u := .tuple #[]) .nil 0 ⟨rfl, _, _, hOc, hpx, rfl⟩
      ·
        have hmm : ¬ m > mid := by simpa using zc63
        refine R.sq ?_
        refine R.rg ?_
        refine R.mv ?_
        refine R.as ?_
        refine R.nl ?_
        refine R.hs (e' := [(0, _), (1, _), (2, _), (3, _), (4, _), (18, _), (19, _), (20, _)]) ?_
        refine R.rg ?_
        refine R.mv ?_
        refine R.as ?_
        refine R.nl ?_
        refine R.hs (e' := [(0, _), (1, _), (2, _), (3, _), (4, _), (18, _), (19, _), (20, _), (21, _)]) ?_
        refine R.sq ?_
        refine R.rg ?_
        refine R.mv ?_
        refine R.sb ?_
        refine R.as ?_
        refine R.nl ?_
        refine R.hs (e' := [(0, _), (1, _), (2, _), (3, _), (4, _), (18, _), (19, _), (20, _), (21, _), (22, _)]) ?_
        refine R.sq ?_
        refine Run.block ?_
        refine Run.loop (ι := Int × Int) [(0, _), (1, _), (2, _), (3, _), (4, _), (18, _), (19, _), (22, _)] (fun p => [(20, .int .i64 p.1), (21, .int .i64 p.2)]) (fun _ => D) (fun _ => q ++ Z) (fun p => a ≤ p.1 ∧ p.1 ≤ p.2 ∧ p.2 ≤ b ∧ mid + m - p.1 ≤ b ∧ a ≤ mid + m - p.2) (fun p => (p.2 - p.1).toNat) ((by first | exact (fun _ : m > mid => (mid + m - b, mid)) hmm | exact (a, m))) (by repeat (first | exact trivial | refine ⟨rfl, ?_⟩)) ?h0 (by repeat (first | exact trivial | refine ⟨rfl, ?_⟩)) (fun w hs => hs) ?_
        case h0 => exact ⟨by simp <;> omega, by simp <;> omega, by simp <;> omega, by simp <;> omega, by simp <;> omega⟩
        rintro ⟨s, r⟩ ⟨hs0, hsr, hr0, hs1, hr1⟩
        simp only at hs0 hsr hr0 hs1 hr1
        refine R.sq ?_
        refine R.sq ?_
        refine R.rg ?_
        refine R.mv ?_
        refine R.mv ?_
        refine R.cm ?_
        refine R.nl ?_
        refine R.hs (e' := [(0, _), (1, _), (2, _), (3, _), (4, _), (18, _), (19, _), (20, _), (21, _), (22, _), (151, _)]) ?_
        refine R.cd (fun zc104 => ?_) (fun zc104 => ?_)
        ·
          have hlt : s < r := by simpa using zc104
          obtain ⟨x, hgx⟩ := get_of_lt (xs := xs) (i := (mid + m - 1 - (s + r) / 2).toNat) (by omega)
          obtain ⟨y, hgy⟩ := get_of_lt (xs := xs) (i := ((s + r) / 2).toNat) (by omega)
          obtain ⟨b1, o1, hI1, hc1⟩ := ho.ix (D := D) (Z := Z) hgx
          obtain ⟨b2, o2, hI2, hc2⟩ := ho.ix (D := D) (Z := Z) hgy
          refine Run.skip ?_
          refine Run.block ?_
          refine R.sq ?_
          refine R.rg ?_
          refine R.mv ?_
          refine R.mv ?_
          refine R.ad ?_
          refine R.cv Try.runUnderlying3 Try.runUnderlying71 (wrapU (show 0 ≤ s + r by omega) (show s + r ≤ 18446744073709551615 by omega)) ?_
          refine R.sr (half_u64 (show 0 ≤ s + r by omega)) ?_
          refine R.cv Try.runUnderlying71 Try.runUnderlying3 (wrap_i64 (show -9223372036854775808 ≤ (s + r) / 2 by omega) (show (s + r) / 2 ≤ 9223372036854775807 by omega)) ?_
          refine R.as ?_
          refine R.nl ?_
          refine R.hs (e' := [(0, _), (1, _), (2, _), (3, _), (4, _), (18, _), (19, _), (20, _), (21, _), (22, _), (23, _)]) ?_
          refine R.sq ?_
          refine Run.drawC Grow.eq 11 [(0, _), (1, _), (2, _), (3, _), (4, _), (18, _), (19, _), (20, _), (21, _), (22, _), (23, _)] mix (by kernel_rfl) (by repeat (first | exact trivial | refine ⟨rfl, ?_⟩)) ?_
          apply TC.val []
          · exact rfl
          · kernel_rfl
          ·
            rintro _ rfl 
            refine R.mv ?_
            refine R.nl ?_
            exact Run.loc rfl rfl rfl
          apply TC.val []
          · exact rfl
          · kernel_rfl
          ·
            rintro _ rfl 
            refine R.mv ?_
            refine R.nl ?_
            exact Run.loc rfl rfl rfl
          apply TC.val []
          · exact rfl
          · kernel_rfl
          ·
            rintro _ rfl 
            refine R.mv ?_
            refine R.nl ?_
            exact Run.loc rfl rfl rfl
          apply TC.val []
          · exact rfl
          · kernel_rfl
          ·
            rintro _ rfl 
            refine R.mv ?_
            refine R.nl ?_
            exact Run.loc rfl rfl rfl
          apply TC.val [1, 0]
          · exact rfl
          · kernel_rfl
          ·
            rintro _ rfl _ rfl _ rfl
            refine R.sb ?_
            refine R.nl ?_
            exact Run.loc rfl rfl rfl
          apply TC.val [3, 0]
          · exact rfl
          · kernel_rfl
          ·
            rintro _ rfl _ rfl _ rfl
            refine R.ix (hI1) Try.runUnderlying73 Try.sizeOf75 ?_
            refine R.nl ?_
            exact Run.loc rfl rfl rfl
          apply TC.val [0]
          · exact rfl
          · kernel_rfl
          ·
            rintro _ rfl _ rfl
            refine R.lAD 7 Try.isAgg75 Try.sizeOf75 ?_
            refine R.nl ?_
            exact Run.loc rfl rfl rfl
          apply TC.val []
          · exact rfl
          · kernel_rfl
          ·
            rintro _ rfl 
            refine R.mv ?_
            refine R.nl ?_
            exact Run.loc rfl rfl rfl
          apply TC.val []
          · exact rfl
          · kernel_rfl
          ·
            rintro _ rfl 
            refine R.mv ?_
            refine R.nl ?_
            exact Run.loc rfl rfl rfl
          apply TC.val [1, 0]
          · exact rfl
          · kernel_rfl
          ·
            rintro _ rfl _ rfl _ rfl
            refine R.ix (hI2) Try.runUnderlying73 Try.sizeOf75 ?_
            refine R.nl ?_
            exact Run.loc rfl rfl rfl
          apply TC.val [0]
          · exact rfl
          · kernel_rfl
          ·
            rintro _ rfl _ rfl
            refine R.lAD 7 Try.isAgg75 Try.sizeOf75 ?_
            refine R.nl ?_
            exact Run.loc rfl rfl rfl
          refine TC.fin (by rfl) ?_
          rintro _ rfl _ rfl _ rfl _ rfl _ rfl _ rfl _ rfl _ rfl _ rfl _ rfl _ rfl _ rfl
          refine R.cy (Try.call67) (cmpV_spec x y) ?_
          refine R.cm ?_
          refine R.nt ?_
          refine R.nl ?_
          refine R.hs (e' := [(0, _), (1, _), (2, _), (3, _), (4, _), (18, _), (19, _), (20, _), (21, _), (22, _), (23, _), (171, _)]) ?_
          refine R.cd (fun zc117 => ?_) (fun zc117 => ?_)
          ·
            refine R.rg ?_
            refine R.mv ?_
            refine R.ad ?_
            refine R.as ?_
            refine R.nl ?_
            refine R.hs (e' := [(0, _), (1, _), (2, _), (3, _), (4, _), (18, _), (19, _), (20, _), (21, _), (22, _)]) ?_
            refine Run.endBlock ?_
            first | exact Run.again ((s + r) / 2 + 1, r) ⟨by simp <;> omega, by simp <;> omega, by simp <;> omega, by simp <;> omega, by simp <;> omega⟩ (by simp <;> omega) (by refine ⟨rfl, rfl, ?_⟩; repeat (first | exact trivial | refine ⟨rfl, ?_⟩)) (fun w hs => hs) | exact Run.again (s, (s + r) / 2) ⟨by simp <;> omega, by simp <;> omega, by simp <;> omega, by simp <;> omega, by simp <;> omega⟩ (by simp <;> omega) (by refine ⟨rfl, rfl, ?_⟩; repeat (first | exact trivial | refine ⟨rfl, ?_⟩)) (fun w hs => hs)
          ·
            refine R.rg ?_
            refine R.mv ?_
            refine R.as ?_
            refine R.nl ?_
            refine R.hs (e' := [(0, _), (1, _), (2, _), (3, _), (4, _), (18, _), (19, _), (20, _), (21, _), (22, _)]) ?_
            refine Run.endBlock ?_
            first | exact Run.again ((s + r) / 2 + 1, r) ⟨by simp <;> omega, by simp <;> omega, by simp <;> omega, by simp <;> omega, by simp <;> omega⟩ (by simp <;> omega) (by refine ⟨rfl, rfl, ?_⟩; repeat (first | exact trivial | refine ⟨rfl, ?_⟩)) (fun w hs => hs) | exact Run.again (s, (s + r) / 2) ⟨by simp <;> omega, by simp <;> omega, by simp <;> omega, by simp <;> omega, by simp <;> omega⟩ (by simp <;> omega) (by refine ⟨rfl, rfl, ?_⟩; repeat (first | exact trivial | refine ⟨rfl, ?_⟩)) (fun w hs => hs)
        ·
          have hge : s = r := by simp at zc104; omega
          have hOc := ho
          have hpx := List.Perm.refl xs
          have hlx := hpx.length_eq
          refine Run.exit rfl ?_
          refine R.sq ?_
          refine R.rg ?_
          refine R.mv ?_
          refine R.mv ?_
          refine R.sb ?_
          refine R.as ?_
          refine R.nl ?_
          refine R.hs (e' := [(0, _), (1, _), (2, _), (3, _), (4, _), (18, _), (20, _), (24, _)]) ?_
          refine R.sq ?_
          refine R.sq ?_
          refine R.rg ?_
          refine R.mv ?_
          refine R.mv ?_
          refine R.cm ?_
          refine R.mv ?_
          refine R.gd (fun zg118 => ?_) (fun zg118 => ?_)
          ·
            refine R.mv ?_
            refine R.gY (zg118) ?_
            refine R.mv ?_
            refine R.gY (zg118) ?_
            refine R.cm ?_
            refine R.pT (zg118) ?_
            refine R.nl ?_
            refine R.hs (e' := [(0, _), (1, _), (2, _), (3, _), (4, _), (18, _), (20, _), (24, _), (185, _)]) ?_
            refine R.cd (fun zc119 => ?_) (fun zc119 => ?_)
            ·
              have hsm : s < m ∧ m < mid + m - s := by simp_all
              refine R.rg ?_
              refine R.mv ?_
              refine R.mv ?_
              refine R.mv ?_
              refine R.mv ?_
              refine R.mv ?_
              refine R.ca Try.call91 (rotate_spec s m (mid + m - s) (by omega) (by omega) (by omega) (by omega) (by omega) hOc) ?_
              rintro _ _ _ ⟨rfl, zs', q', hO', hp', rfl⟩
              have hOc := hO'
              have hpx := hp'.trans hpx
              have hlx := hpx.length_eq
              refine R.nl ?_
              refine R.hs (e' := [(0, _), (1, _), (3, _), (4, _), (18, _), (20, _), (24, _)]) ?_
              refine R.sq ?_
              refine R.sq ?_
              refine R.rg ?_
              refine R.mv ?_
              refine R.mv ?_
              refine R.cm ?_
              refine R.mv ?_
              refine R.gd (fun zg120 => ?_) (fun zg120 => ?_)
              ·
                refine R.mv ?_
                refine R.gY (zg120) ?_
                refine R.mv ?_
                refine R.gY (zg120) ?_
                refine R.cm ?_
                refine R.pT (zg120) ?_
                refine R.nl ?_
                refine R.hs (e' := [(0, _), (1, _), (3, _), (4, _), (18, _), (20, _), (24, _), (199, _)]) ?_
                refine R.cd (fun zc121 => ?_) (fun zc121 => ?_)
                ·
                  have hsm : a < s ∧ s < mid := by simp_all
                  refine R.rg ?_
                  refine R.mv ?_
                  refine R.mv ?_
                  refine R.mv ?_
                  refine R.mv ?_
                  refine R.mv ?_
                  refine R.ca Try.call85 (ih ((mid - a).toNat) (by omega) a s mid rfl (by omega) (by omega) (by omega) (by omega) (by omega) hOc) ?_
                  rintro _ _ _ ⟨rfl, zs', q', hO', hp', rfl⟩
                  have hOc := hO'
                  have hpx := hp'.trans hpx
                  have hlx := hpx.length_eq
                  refine R.nl ?_
                  refine R.hs (e' := [(0, _), (3, _), (4, _), (18, _), (24, _)]) ?_
                  refine R.sq ?_
                  refine R.rg ?_
                  refine R.mv ?_
                  refine R.mv ?_
                  refine R.cm ?_
                  refine R.mv ?_
                  refine R.gd (fun zg122 => ?_) (fun zg122 => ?_)
                  ·
                    refine R.mv ?_
                    refine R.gY (zg122) ?_
                    refine R.mv ?_
                    refine R.gY (zg122) ?_
                    refine R.cm ?_
                    refine R.pT (zg122) ?_
                    refine R.nl ?_
                    refine R.hs (e' := [(0, _), (3, _), (4, _), (18, _), (24, _), (213, _)]) ?_
                    refine R.cd (fun zc123 => ?_) (fun zc123 => ?_)
                    ·
                      have hsm : mid < mid + m - s ∧ mid + m - s < b := by simp_all
                      refine R.rg ?_
                      refine R.mv ?_
                      refine R.mv ?_
                      refine R.mv ?_
                      refine R.mv ?_
                      refine R.mv ?_
                      refine R.ca Try.call85 (ih ((b - mid).toNat) (by omega) mid (mid + m - s) b rfl (by omega) (by omega) (by omega) (by omega) (by omega) hOc) ?_
                      rintro _ _ _ ⟨rfl, zs', q', hO', hp', rfl⟩
                      have hOc := hO'
                      have hpx := hp'.trans hpx
                      have hlx := hpx.length_eq
                      refine R.nl ?_
                      refine R.hs (e' := []) ?_
                      first
                        | exact R.rk (u := .tuple #[]) .nil 0 ⟨rfl, ws, q1, hOw, hpw, rfl⟩
                        | exact R.fn (u := .tuple #[]) .nil 0 ⟨rfl, _, _, hOc, hpx, rfl⟩
                    ·
                      refine Run.skip ?_
                      first
                        | exact R.rk (u := .tuple #[]) .nil 0 ⟨rfl, ws, q1, hOw, hpw, rfl⟩
                        | exact R.fn (u := .tuple #[]) .nil 0 ⟨rfl, _, _, hOc, hpx, rfl⟩
                  ·
                    refine R.gF (zg122) ?_
                    refine R.gF (zg122) ?_
                    refine R.pF (zg122) ?_
                    refine R.nl ?_
                    refine R.hs (e' := [(0, _), (3, _), (4, _), (18, _), (24, _), (213, _)]) ?_
                    refine R.cF (rfl) ?_
                    refine Run.skip ?_
                    first
                      | exact R.rk (u := .tuple #[]) .nil 0 ⟨rfl, ws, q1, hOw, hpw, rfl⟩
                      | exact R.fn (u := .tuple #[]) .nil 0 ⟨rfl, _, _, hOc, hpx, rfl⟩
                ·
                  refine Run.skip ?_
                  refine R.sq ?_
                  refine R.rg ?_
                  refine R.mv ?_
                  refine R.mv ?_
                  refine R.cm ?_
                  refine R.mv ?_
                  refine R.gd (fun zg124 => ?_) (fun zg124 => ?_)
                  ·
                    refine R.mv ?_
                    refine R.gY (zg124) ?_
                    refine R.mv ?_
                    refine R.gY (zg124) ?_
                    refine R.cm ?_
                    refine R.pT (zg124) ?_
                    refine R.nl ?_
                    refine R.hs (e' := [(0, _), (3, _), (4, _), (18, _), (24, _), (213, _)]) ?_
                    refine R.cd (fun zc125 => ?_) (fun zc125 => ?_)
                    ·
                      have hsm : mid < mid + m - s ∧ mid + m - s < b := by simp_all
                      refine R.rg ?_
                      refine R.mv ?_
                      refine R.mv ?_
                      refine R.mv ?_
                      refine R.mv ?_
                      refine R.mv ?_
                      refine R.ca Try.call85 (ih ((b - mid).toNat) (by omega) mid (mid + m - s) b rfl (by omega) (by omega) (by omega) (by omega) (by omega) hOc) ?_
                      rintro _ _ _ ⟨rfl, zs', q', hO', hp', rfl⟩
                      have hOc := hO'
                      have hpx := hp'.trans hpx
                      have hlx := hpx.length_eq
                      refine R.nl ?_
                      refine R.hs (e' := []) ?_
                      first
                        | exact R.rk (u := .tuple #[]) .nil 0 ⟨rfl, ws, q1, hOw, hpw, rfl⟩
                        | exact R.fn (u := .tuple #[]) .nil 0 ⟨rfl, _, _, hOc, hpx, rfl⟩
                    ·
                      refine Run.skip ?_
                      first
                        | exact R.rk (u := .tuple #[]) .nil 0 ⟨rfl, ws, q1, hOw, hpw, rfl⟩
                        | exact R.fn (u := .tuple #[]) .nil 0 ⟨rfl, _, _, hOc, hpx, rfl⟩
                  ·
                    refine R.gF (zg124) ?_
                    refine R.gF (zg124) ?_
                    refine R.pF (zg124) ?_
                    refine R.nl ?_
                    refine R.hs (e' := [(0, _), (3, _), (4, _), (18, _), (24, _), (213, _)]) ?_
                    refine R.cF (rfl) ?_
                    refine Run.skip ?_
                    first
                      | exact R.rk (u := .tuple #[]) .nil 0 ⟨rfl, ws, q1, hOw, hpw, rfl⟩
                      | exact R.fn (u := .tuple #[]) .nil 0 ⟨rfl, _, _, hOc, hpx, rfl⟩
              ·
                refine R.gF (zg120) ?_
                refine R.gF (zg120) ?_
                refine R.pF (zg120) ?_
                refine R.nl ?_
                refine R.hs (e' := [(0, _), (1, _), (3, _), (4, _), (18, _), (20, _), (24, _), (199, _)]) ?_
                refine R.cF (rfl) ?_
                refine Run.skip ?_
                refine R.sq ?_
                refine R.rg ?_
                refine R.mv ?_
                refine R.mv ?_
                refine R.cm ?_
                refine R.mv ?_
                refine R.gd (fun zg126 => ?_) (fun zg126 => ?_)
                ·
                  refine R.mv ?_
                  refine R.gY (zg126) ?_
                  refine R.mv ?_
                  refine R.gY (zg126) ?_
                  refine R.cm ?_
                  refine R.pT (zg126) ?_
                  refine R.nl ?_
                  refine R.hs (e' := [(0, _), (3, _), (4, _), (18, _), (24, _), (213, _)]) ?_
                  refine R.cd (fun zc127 => ?_) (fun zc127 => ?_)
                  ·
                    have hsm : mid < mid + m - s ∧ mid + m - s < b := by simp_all
                    refine R.rg ?_
                    refine R.mv ?_
                    refine R.mv ?_
                    refine R.mv ?_
                    refine R.mv ?_
                    refine R.mv ?_
                    refine R.ca Try.call85 (ih ((b - mid).toNat) (by omega) mid (mid + m - s) b rfl (by omega) (by omega) (by omega) (by omega) (by omega) hOc) ?_
                    rintro _ _ _ ⟨rfl, zs', q', hO', hp', rfl⟩
                    have hOc := hO'
                    have hpx := hp'.trans hpx
                    have hlx := hpx.length_eq
                    refine R.nl ?_
                    refine R.hs (e' := []) ?_
                    first
                      | exact R.rk (u := .tuple #[]) .nil 0 ⟨rfl, ws, q1, hOw, hpw, rfl⟩
                      | exact R.fn (u := .tuple #[]) .nil 0 ⟨rfl, _, _, hOc, hpx, rfl⟩
                  ·
                    refine Run.skip ?_
                    first
                      | exact R.rk (u := .tuple #[]) .nil 0 ⟨rfl, ws, q1, hOw, hpw, rfl⟩
                      | exact R.fn (u := .tuple #[]) .nil 0 ⟨rfl, _, _, hOc, hpx, rfl⟩
                ·
                  refine R.gF (zg126) ?_
                  refine R.gF (zg126) ?_
                  refine R.pF (zg126) ?_
                  refine R.nl ?_
                  refine R.hs (e' := [(0, _), (3, _), (4, _), (18, _), (24, _), (213, _)]) ?_
                  refine R.cF (rfl) ?_
                  refine Run.skip ?_
                  first
                    | exact R.rk (u := .tuple #[]) .nil 0 ⟨rfl, ws, q1, hOw, hpw, rfl⟩
                    | exact R.fn (u := .tuple #[]) .nil 0 ⟨rfl, _, _, hOc, hpx, rfl⟩
            ·
              refine Run.skip ?_
              refine R.sq ?_
              refine R.sq ?_
              refine R.rg ?_
              refine R.mv ?_
              refine R.mv ?_
              refine R.cm ?_
              refine R.mv ?_
              refine R.gd (fun zg128 => ?_) (fun zg128 => ?_)
              ·
                refine R.mv ?_
                refine R.gY (zg128) ?_
                refine R.mv ?_
                refine R.gY (zg128) ?_
                refine R.cm ?_
                refine R.pT (zg128) ?_
                refine R.nl ?_
                refine R.hs (e' := [(0, _), (1, _), (3, _), (4, _), (18, _), (20, _), (24, _), (199, _)]) ?_
                refine R.cd (fun zc129 => ?_) (fun zc129 => ?_)
                ·
                  have hsm : a < s ∧ s < mid := by simp_all
                  refine R.rg ?_
                  refine R.mv ?_
                  refine R.mv ?_
                  refine R.mv ?_
                  refine R.mv ?_
                  refine R.mv ?_
                  refine R.ca Try.call85 (ih ((mid - a).toNat) (by omega) a s mid rfl (by omega) (by omega) (by omega) (by omega) (by omega) hOc) ?_
                  rintro _ _ _ ⟨rfl, zs', q', hO', hp', rfl⟩
                  have hOc := hO'
                  have hpx := hp'.trans hpx
                  have hlx := hpx.length_eq
                  refine R.nl ?_
                  refine R.hs (e' := [(0, _), (3, _), (4, _), (18, _), (24, _)]) ?_
                  refine R.sq ?_
                  refine R.rg ?_
                  refine R.mv ?_
                  refine R.mv ?_
                  refine R.cm ?_
                  refine R.mv ?_
                  refine R.gd (fun zg130 => ?_) (fun zg130 => ?_)
                  ·
                    refine R.mv ?_
                    refine R.gY (zg130) ?_
                    refine R.mv ?_
                    refine R.gY (zg130) ?_
                    refine R.cm ?_
                    refine R.pT (zg130) ?_
                    refine R.nl ?_
                    refine R.hs (e' := [(0, _), (3, _), (4, _), (18, _), (24, _), (213, _)]) ?_
                    refine R.cd (fun zc131 => ?_) (fun zc131 => ?_)
                    ·
                      have hsm : mid < mid + m - s ∧ mid + m - s < b := by simp_all
                      refine R.rg ?_
                      refine R.mv ?_
                      refine R.mv ?_
                      refine R.mv ?_
                      refine R.mv ?_
                      refine R.mv ?_
                      refine R.ca Try.call85 (ih ((b - mid).toNat) (by omega) mid (mid + m - s) b rfl (by omega) (by omega) (by omega) (by omega) (by omega) hOc) ?_
                      rintro _ _ _ ⟨rfl, zs', q', hO', hp', rfl⟩
                      have hOc := hO'
                      have hpx := hp'.trans hpx
                      have hlx := hpx.length_eq
                      refine R.nl ?_
                      refine R.hs (e' := []) ?_
                      first
                        | exact R.rk (u := .tuple #[]) .nil 0 ⟨rfl, ws, q1, hOw, hpw, rfl⟩
                        | exact R.fn (u := .tuple #[]) .nil 0 ⟨rfl, _, _, hOc, hpx, rfl⟩
                    ·
                      refine Run.skip ?_
                      first
                        | exact R.rk (u := .tuple #[]) .nil 0 ⟨rfl, ws, q1, hOw, hpw, rfl⟩
                        | exact R.fn (u := .tuple #[]) .nil 0 ⟨rfl, _, _, hOc, hpx, rfl⟩
                  ·
                    refine R.gF (zg130) ?_
                    refine R.gF (zg130) ?_
                    refine R.pF (zg130) ?_
                    refine R.nl ?_
                    refine R.hs (e' := [(0, _), (3, _), (4, _), (18, _), (24, _), (213, _)]) ?_
                    refine R.cF (rfl) ?_
                    refine Run.skip ?_
                    first
                      | exact R.rk (u := .tuple #[]) .nil 0 ⟨rfl, ws, q1, hOw, hpw, rfl⟩
                      | exact R.fn (u := .tuple #[]) .nil 0 ⟨rfl, _, _, hOc, hpx, rfl⟩
                ·
                  refine Run.skip ?_
                  refine R.sq ?_
                  refine R.rg ?_
                  refine R.mv ?_
                  refine R.mv ?_
                  refine R.cm ?_
                  refine R.mv ?_
                  refine R.gd (fun zg132 => ?_) (fun zg132 => ?_)
                  ·
                    refine R.mv ?_
                    refine R.gY (zg132) ?_
                    refine R.mv ?_
                    refine R.gY (zg132) ?_
                    refine R.cm ?_
                    refine R.pT (zg132) ?_
                    refine R.nl ?_
                    refine R.hs (e' := [(0, _), (3, _), (4, _), (18, _), (24, _), (213, _)]) ?_
                    refine R.cd (fun zc133 => ?_) (fun zc133 => ?_)
                    ·
                      have hsm : mid < mid + m - s ∧ mid + m - s < b := by simp_all
                      refine R.rg ?_
                      refine R.mv ?_
                      refine R.mv ?_
                      refine R.mv ?_
                      refine R.mv ?_
                      refine R.mv ?_
                      refine R.ca Try.call85 (ih ((b - mid).toNat) (by omega) mid (mid + m - s) b rfl (by omega) (by omega) (by omega) (by omega) (by omega) hOc) ?_
                      rintro _ _ _ ⟨rfl, zs', q', hO', hp', rfl⟩
                      have hOc := hO'
                      have hpx := hp'.trans hpx
                      have hlx := hpx.length_eq
                      refine R.nl ?_
                      refine R.hs (e' := []) ?_
                      first
                        | exact R.rk (u := .tuple #[]) .nil 0 ⟨rfl, ws, q1, hOw, hpw, rfl⟩
                        | exact R.fn (u := .tuple #[]) .nil 0 ⟨rfl, _, _, hOc, hpx, rfl⟩
                    ·
                      refine Run.skip ?_
                      first
                        | exact R.rk (u := .tuple #[]) .nil 0 ⟨rfl, ws, q1, hOw, hpw, rfl⟩
                        | exact R.fn (u := .tuple #[]) .nil 0 ⟨rfl, _, _, hOc, hpx, rfl⟩
                  ·
                    refine R.gF (zg132) ?_
                    refine R.gF (zg132) ?_
                    refine R.pF (zg132) ?_
                    refine R.nl ?_
                    refine R.hs (e' := [(0, _), (3, _), (4, _), (18, _), (24, _), (213, _)]) ?_
                    refine R.cF (rfl) ?_
                    refine Run.skip ?_
                    first
                      | exact R.rk (u := .tuple #[]) .nil 0 ⟨rfl, ws, q1, hOw, hpw, rfl⟩
                      | exact R.fn (u := .tuple #[]) .nil 0 ⟨rfl, _, _, hOc, hpx, rfl⟩
              ·
                refine R.gF (zg128) ?_
                refine R.gF (zg128) ?_
                refine R.pF (zg128) ?_
                refine R.nl ?_
                refine R.hs (e' := [(0, _), (1, _), (3, _), (4, _), (18, _), (20, _), (24, _), (199, _)]) ?_
                refine R.cF (rfl) ?_
                refine Run.skip ?_
                refine R.sq ?_
                refine R.rg ?_
                refine R.mv ?_
                refine R.mv ?_
                refine R.cm ?_
                refine R.mv ?_
                refine R.gd (fun zg134 => ?_) (fun zg134 => ?_)
                ·
                  refine R.mv ?_
                  refine R.gY (zg134) ?_
                  refine R.mv ?_
                  refine R.gY (zg134) ?_
                  refine R.cm ?_
                  refine R.pT (zg134) ?_
                  refine R.nl ?_
                  refine R.hs (e' := [(0, _), (3, _), (4, _), (18, _), (24, _), (213, _)]) ?_
                  refine R.cd (fun zc135 => ?_) (fun zc135 => ?_)
                  ·
                    have hsm : mid < mid + m - s ∧ mid + m - s < b := by simp_all
                    refine R.rg ?_
                    refine R.mv ?_
                    refine R.mv ?_
                    refine R.mv ?_
                    refine R.mv ?_
                    refine R.mv ?_
                    refine R.ca Try.call85 (ih ((b - mid).toNat) (by omega) mid (mid + m - s) b rfl (by omega) (by omega) (by omega) (by omega) (by omega) hOc) ?_
                    rintro _ _ _ ⟨rfl, zs', q', hO', hp', rfl⟩
                    have hOc := hO'
                    have hpx := hp'.trans hpx
                    have hlx := hpx.length_eq
                    refine R.nl ?_
                    refine R.hs (e' := []) ?_
                    first
                      | exact R.rk (u := .tuple #[]) .nil 0 ⟨rfl, ws, q1, hOw, hpw, rfl⟩
                      | exact R.fn (u := .tuple #[]) .nil 0 ⟨rfl, _, _, hOc, hpx, rfl⟩
                  ·
                    refine Run.skip ?_
                    first
                      | exact R.rk (u := .tuple #[]) .nil 0 ⟨rfl, ws, q1, hOw, hpw, rfl⟩
                      | exact R.fn (u := .tuple #[]) .nil 0 ⟨rfl, _, _, hOc, hpx, rfl⟩
                ·
                  refine R.gF (zg134) ?_
                  refine R.gF (zg134) ?_
                  refine R.pF (zg134) ?_
                  refine R.nl ?_
                  refine R.hs (e' := [(0, _), (3, _), (4, _), (18, _), (24, _), (213, _)]) ?_
                  refine R.cF (rfl) ?_
                  refine Run.skip ?_
                  first
                    | exact R.rk (u := .tuple #[]) .nil 0 ⟨rfl, ws, q1, hOw, hpw, rfl⟩
                    | exact R.fn (u := .tuple #[]) .nil 0 ⟨rfl, _, _, hOc, hpx, rfl⟩
          ·
            refine R.gF (zg118) ?_
            refine R.gF (zg118) ?_
            refine R.pF (zg118) ?_
            refine R.nl ?_
            refine R.hs (e' := [(0, _), (1, _), (2, _), (3, _), (4, _), (18, _), (20, _), (24, _), (185, _)]) ?_
            refine R.cF (rfl) ?_
            refine Run.skip ?_
            refine R.sq ?_
            refine R.sq ?_
            refine R.rg ?_
            refine R.mv ?_
            refine R.mv ?_
            refine R.cm ?_
            refine R.mv ?_
            refine R.gd (fun zg136 => ?_) (fun zg136 => ?_)
            ·
              refine R.mv ?_
              refine R.gY (zg136) ?_
              refine R.mv ?_
              refine R.gY (zg136) ?_
              refine R.cm ?_
              refine R.pT (zg136) ?_
              refine R.nl ?_
              refine R.hs (e' := [(0, _), (1, _), (3, _), (4, _), (18, _), (20, _), (24, _), (199, _)]) ?_
              refine R.cd (fun zc137 => ?_) (fun zc137 => ?_)
              ·
                have hsm : a < s ∧ s < mid := by simp_all
                refine R.rg ?_
                refine R.mv ?_
                refine R.mv ?_
                refine R.mv ?_
                refine R.mv ?_
                refine R.mv ?_
                refine R.ca Try.call85 (ih ((mid - a).toNat) (by omega) a s mid rfl (by omega) (by omega) (by omega) (by omega) (by omega) hOc) ?_
                rintro _ _ _ ⟨rfl, zs', q', hO', hp', rfl⟩
                have hOc := hO'
                have hpx := hp'.trans hpx
                have hlx := hpx.length_eq
                refine R.nl ?_
                refine R.hs (e' := [(0, _), (3, _), (4, _), (18, _), (24, _)]) ?_
                refine R.sq ?_
                refine R.rg ?_
                refine R.mv ?_
                refine R.mv ?_
                refine R.cm ?_
                refine R.mv ?_
                refine R.gd (fun zg138 => ?_) (fun zg138 => ?_)
                ·
                  refine R.mv ?_
                  refine R.gY (zg138) ?_
                  refine R.mv ?_
                  refine R.gY (zg138) ?_
                  refine R.cm ?_
                  refine R.pT (zg138) ?_
                  refine R.nl ?_
                  refine R.hs (e' := [(0, _), (3, _), (4, _), (18, _), (24, _), (213, _)]) ?_
                  refine R.cd (fun zc139 => ?_) (fun zc139 => ?_)
                  ·
                    have hsm : mid < mid + m - s ∧ mid + m - s < b := by simp_all
                    refine R.rg ?_
                    refine R.mv ?_
                    refine R.mv ?_
                    refine R.mv ?_
                    refine R.mv ?_
                    refine R.mv ?_
                    refine R.ca Try.call85 (ih ((b - mid).toNat) (by omega) mid (mid + m - s) b rfl (by omega) (by omega) (by omega) (by omega) (by omega) hOc) ?_
                    rintro _ _ _ ⟨rfl, zs', q', hO', hp', rfl⟩
                    have hOc := hO'
                    have hpx := hp'.trans hpx
                    have hlx := hpx.length_eq
                    refine R.nl ?_
                    refine R.hs (e' := []) ?_
                    first
                      | exact R.rk (u := .tuple #[]) .nil 0 ⟨rfl, ws, q1, hOw, hpw, rfl⟩
                      | exact R.fn (u := .tuple #[]) .nil 0 ⟨rfl, _, _, hOc, hpx, rfl⟩
                  ·
                    refine Run.skip ?_
                    first
                      | exact R.rk (u := .tuple #[]) .nil 0 ⟨rfl, ws, q1, hOw, hpw, rfl⟩
                      | exact R.fn (u := .tuple #[]) .nil 0 ⟨rfl, _, _, hOc, hpx, rfl⟩
                ·
                  refine R.gF (zg138) ?_
                  refine R.gF (zg138) ?_
                  refine R.pF (zg138) ?_
                  refine R.nl ?_
                  refine R.hs (e' := [(0, _), (3, _), (4, _), (18, _), (24, _), (213, _)]) ?_
                  refine R.cF (rfl) ?_
                  refine Run.skip ?_
                  first
                    | exact R.rk (u := .tuple #[]) .nil 0 ⟨rfl, ws, q1, hOw, hpw, rfl⟩
                    | exact R.fn (u := .tuple #[]) .nil 0 ⟨rfl, _, _, hOc, hpx, rfl⟩
              ·
                refine Run.skip ?_
                refine R.sq ?_
                refine R.rg ?_
                refine R.mv ?_
                refine R.mv ?_
                refine R.cm ?_
                refine R.mv ?_
                refine R.gd (fun zg140 => ?_) (fun zg140 => ?_)
                ·
                  refine R.mv ?_
                  refine R.gY (zg140) ?_
                  refine R.mv ?_
                  refine R.gY (zg140) ?_
                  refine R.cm ?_
                  refine R.pT (zg140) ?_
                  refine R.nl ?_
                  refine R.hs (e' := [(0, _), (3, _), (4, _), (18, _), (24, _), (213, _)]) ?_
                  refine R.cd (fun zc141 => ?_) (fun zc141 => ?_)
                  ·
                    have hsm : mid < mid + m - s ∧ mid + m - s < b := by simp_all
                    refine R.rg ?_
                    refine R.mv ?_
                    refine R.mv ?_
                    refine R.mv ?_
                    refine R.mv ?_
                    refine R.mv ?_
                    refine R.ca Try.call85 (ih ((b - mid).toNat) (by omega) mid (mid + m - s) b rfl (by omega) (by omega) (by omega) (by omega) (by omega) hOc) ?_
                    rintro _ _ _ ⟨rfl, zs', q', hO', hp', rfl⟩
                    have hOc := hO'
                    have hpx := hp'.trans hpx
                    have hlx := hpx.length_eq
                    refine R.nl ?_
                    refine R.hs (e' := []) ?_
                    first
                      | exact R.rk (u := .tuple #[]) .nil 0 ⟨rfl, ws, q1, hOw, hpw, rfl⟩
                      | exact R.fn (u := .tuple #[]) .nil 0 ⟨rfl, _, _, hOc, hpx, rfl⟩
                  ·
                    refine Run.skip ?_
                    first
                      | exact R.rk (u := .tuple #[]) .nil 0 ⟨rfl, ws, q1, hOw, hpw, rfl⟩
                      | exact R.fn (u := .tuple #[]) .nil 0 ⟨rfl, _, _, hOc, hpx, rfl⟩
                ·
                  refine R.gF (zg140) ?_
                  refine R.gF (zg140) ?_
                  refine R.pF (zg140) ?_
                  refine R.nl ?_
                  refine R.hs (e' := [(0, _), (3, _), (4, _), (18, _), (24, _), (213, _)]) ?_
                  refine R.cF (rfl) ?_
                  refine Run.skip ?_
                  first
                    | exact R.rk (u := .tuple #[]) .nil 0 ⟨rfl, ws, q1, hOw, hpw, rfl⟩
                    | exact R.fn (u := .tuple #[]) .nil 0 ⟨rfl, _, _, hOc, hpx, rfl⟩
            ·
              refine R.gF (zg136) ?_
              refine R.gF (zg136) ?_
              refine R.pF (zg136) ?_
              refine R.nl ?_
              refine R.hs (e' := [(0, _), (1, _), (3, _), (4, _), (18, _), (20, _), (24, _), (199, _)]) ?_
              refine R.cF (rfl) ?_
              refine Run.skip ?_
              refine R.sq ?_
              refine R.rg ?_
              refine R.mv ?_
              refine R.mv ?_
              refine R.cm ?_
              refine R.mv ?_
              refine R.gd (fun zg142 => ?_) (fun zg142 => ?_)
              ·
                refine R.mv ?_
                refine R.gY (zg142) ?_
                refine R.mv ?_
                refine R.gY (zg142) ?_
                refine R.cm ?_
                refine R.pT (zg142) ?_
                refine R.nl ?_
                refine R.hs (e' := [(0, _), (3, _), (4, _), (18, _), (24, _), (213, _)]) ?_
                refine R.cd (fun zc143 => ?_) (fun zc143 => ?_)
                ·
                  have hsm : mid < mid + m - s ∧ mid + m - s < b := by simp_all
                  refine R.rg ?_
                  refine R.mv ?_
                  refine R.mv ?_
                  refine R.mv ?_
                  refine R.mv ?_
                  refine R.mv ?_
                  refine R.ca Try.call85 (ih ((b - mid).toNat) (by omega) mid (mid + m - s) b rfl (by omega) (by omega) (by omega) (by omega) (by omega) hOc) ?_
                  rintro _ _ _ ⟨rfl, zs', q', hO', hp', rfl⟩
                  have hOc := hO'
                  have hpx := hp'.trans hpx
                  have hlx := hpx.length_eq
                  refine R.nl ?_
                  refine R.hs (e' := []) ?_
                  first
                    | exact R.rk (u := .tuple #[]) .nil 0 ⟨rfl, ws, q1, hOw, hpw, rfl⟩
                    | exact R.fn (u := .tuple #[]) .nil 0 ⟨rfl, _, _, hOc, hpx, rfl⟩
                ·
                  refine Run.skip ?_
                  first
                    | exact R.rk (u := .tuple #[]) .nil 0 ⟨rfl, ws, q1, hOw, hpw, rfl⟩
                    | exact R.fn (u := .tuple #[]) .nil 0 ⟨rfl, _, _, hOc, hpx, rfl⟩
              ·
                refine R.gF (zg142) ?_
                refine R.gF (zg142) ?_
                refine R.pF (zg142) ?_
                refine R.nl ?_
                refine R.hs (e' := [(0, _), (3, _), (4, _), (18, _), (24, _), (213, _)]) ?_
                refine R.cF (rfl) ?_
                refine Run.skip ?_
                first
                  | exact R.rk (u := .tuple #[]) .nil 0 ⟨rfl, ws, q1, hOw, hpw, rfl⟩
                  | exact R.fn (u := .tuple #[]) .nil 0 ⟨rfl, _, _, hOc, hpx, rfl⟩
theorem stable_spec {g : Gl} {D : Dict} {q Z : MList} {v : Value} {xs : List Vw} (hml : xs.length ≤ 1000000) (ho : VR v xs q) :
    Spec Try.prog g 73 [v, .int .i64 (xs.length : Int), .func (.func 67) #[] #[]] D (q ++ Z) (Kept q Z D v xs) := by
  refine Spec.enter Try.func73 rfl Try.ntmps73 rfl ?_
  refine R.sq ?_
  refine R.rg ?_
  refine R.as ?_
  refine R.nl ?_
  refine R.hs (e' := [(0, _), (1, _), (2, _), (6, _)]) ?_
  refine R.sq ?_
  refine R.rg ?_
  refine R.mv ?_
  refine R.as ?_
  refine R.as ?_
  refine R.nl ?_
  refine R.hs (e' := [(0, _), (1, _), (2, _), (6, _), (7, _), (8, _)]) ?_
  refine R.sq ?_
  refine Run.block ?_
  refine Run.loop (ι := Int × Int × List Vw × MList) [(0, _), (1, _), (2, _), (6, _)] (fun p => [(7, .int .i64 p.1), (8, .int .i64 p.2.1)]) (fun _ => D) (fun p => p.2.2.2 ++ Z) (fun p => 0 ≤ p.1 ∧ p.2.1 = p.1 + 20 ∧ p.1 ≤ xs.length ∧ p.2.2.1.Perm xs ∧ VR v p.2.2.1 p.2.2.2) (fun p => (xs.length - p.1).toNat) ((0, 20, xs, q)) (by repeat (first | exact trivial | refine ⟨rfl, ?_⟩)) ?h0 (by repeat (first | exact trivial | refine ⟨rfl, ?_⟩)) (fun w hs => hs) ?_
  case h0 => exact ⟨by simp, by simp, by simp, List.Perm.refl _, ho⟩
  rintro ⟨a, b, zs, q0⟩ ⟨ha0, hab, han, hpx, hOc⟩
  simp only at ha0 hab han hpx hOc
  have hlx := hpx.length_eq
  refine R.sq ?_
  refine R.sq ?_
  refine R.rg ?_
  refine R.mv ?_
  refine R.mv ?_
  refine R.cm ?_
  refine R.nl ?_
  refine R.hs (e' := [(0, _), (1, _), (2, _), (6, _), (7, _), (8, _), (13, _)]) ?_
  refine R.cd (fun zc1 => ?_) (fun zc1 => ?_)
  ·
    have hbn : b ≤ xs.length := by simpa using zc1
    refine Run.skip ?_
    refine Run.block ?_
    refine R.sq ?_
    refine R.rg ?_
    refine R.mv ?_
    refine R.mv ?_
    refine R.mv ?_
    refine R.mv ?_
    refine R.ca Try.call84 (insSort_spec a b (by omega) (by omega) (by omega) (by omega) hOc) ?_
    rintro _ _ _ ⟨rfl, zs', q', hO', hp', rfl⟩
    have hOc := hO'
    have hpx := hp'.trans hpx
    have hlx := hpx.length_eq
    refine R.nl ?_
    refine R.hs (e' := [(0, _), (1, _), (2, _), (6, _), (8, _)]) ?_
    refine R.sq ?_
    refine R.rg ?_
    refine R.mv ?_
    refine R.as ?_
    refine R.nl ?_
    refine R.hs (e' := [(0, _), (1, _), (2, _), (6, _), (7, _), (8, _)]) ?_
    refine R.rg ?_
    refine R.mv ?_
    refine R.mv ?_
    refine R.ad ?_
    refine R.as ?_
    refine R.nl ?_
    refine R.hs (e' := [(0, _), (1, _), (2, _), (6, _), (7, _), (8, _)]) ?_
    refine Run.endBlock ?_
    exact Run.again (b, b + 20, zs', q') ⟨by simp <;> omega, by simp, by simp <;> omega, hpx, hOc⟩ (by simp <;> omega) (by refine ⟨rfl, rfl, ?_⟩; repeat (first | exact trivial | refine ⟨rfl, ?_⟩)) (fun w hs => hs)
  ·
    refine Run.exit rfl ?_
    refine R.sq ?_
    refine R.rg ?_
    refine R.mv ?_
    refine R.mv ?_
    refine R.mv ?_
    refine R.mv ?_
    refine R.ca Try.call84 (insSort_spec a xs.length (by omega) (by omega) (by omega) (by omega) hOc) ?_
    rintro _ _ _ ⟨rfl, zs', q', hO', hp', rfl⟩
    have hOc := hO'
    have hpx := hp'.trans hpx
    have hlx := hpx.length_eq
    refine R.nl ?_
    refine R.hs (e' := [(0, _), (1, _), (2, _), (6, _)]) ?_
    refine Run.block ?_
    refine Run.loop (ι := Int × List Vw × MList) [(0, _), (1, _), (2, _)] (fun p => [(6, .int .i64 p.1)]) (fun _ => D) (fun p => p.2.2 ++ Z) (fun p => 20 ≤ p.1 ∧ p.1 ≤ 4000000 ∧ p.2.1.Perm xs ∧ VR v p.2.1 p.2.2) (fun p => (4000000 - p.1).toNat) ((20, zs', q')) (by repeat (first | exact trivial | refine ⟨rfl, ?_⟩)) ?h0 (by repeat (first | exact trivial | refine ⟨rfl, ?_⟩)) (fun w hs => hs) ?_
    case h0 => exact ⟨by simp, by simp, hpx, hOc⟩
    rintro ⟨bs, zs, q0⟩ ⟨hb0, hb1, hpx, hOc⟩
    simp only at hb0 hb1 hpx hOc
    have hlx := hpx.length_eq
    refine R.sq ?_
    refine R.sq ?_
    refine R.rg ?_
    refine R.mv ?_
    refine R.mv ?_
    refine R.cm ?_
    refine R.nl ?_
    refine R.hs (e' := [(0, _), (1, _), (2, _), (6, _), (30, _)]) ?_
    refine R.cd (fun zc2 => ?_) (fun zc2 => ?_)
    ·
      have hbs : bs < xs.length := by simpa using zc2
      refine Run.skip ?_
      refine Run.block ?_
      refine R.sq ?_
      refine R.rg ?_
      refine R.mv ?_
      refine R.ml ?_
      refine R.as ?_
      refine R.as ?_
      refine R.nl ?_
      refine R.hs (e' := [(0, _), (1, _), (2, _), (6, _), (7, _), (8, _)]) ?_
      refine R.sq ?_
      refine Run.block ?_
      refine Run.loop (ι := Int × Int × List Vw × MList) [(0, _), (1, _), (2, _), (6, _)] (fun p => [(7, .int .i64 p.1), (8, .int .i64 p.2.1)]) (fun _ => D) (fun p => p.2.2.2 ++ Z) (fun p => 0 ≤ p.1 ∧ p.2.1 = p.1 + 2 * bs ∧ p.1 ≤ xs.length ∧ p.2.2.1.Perm xs ∧ VR v p.2.2.1 p.2.2.2) (fun p => (xs.length - p.1).toNat) ((0, 2 * bs, zs, q0)) (by repeat (first | exact trivial | refine ⟨rfl, ?_⟩)) ?h0 (by repeat (first | exact trivial | refine ⟨rfl, ?_⟩)) (fun w hs => hs) ?_
      case h0 => exact ⟨by simp, by simp, by simp, hpx, hOc⟩
      rintro ⟨a, b, zs, q0⟩ ⟨ha0, hab, han, hpx, hOc⟩
      simp only at ha0 hab han hpx hOc
      have hlx := hpx.length_eq
      refine R.sq ?_
      refine R.sq ?_
      refine R.rg ?_
      refine R.mv ?_
      refine R.mv ?_
      refine R.cm ?_
      refine R.nl ?_
      refine R.hs (e' := [(0, _), (1, _), (2, _), (6, _), (7, _), (8, _), (35, _)]) ?_
      refine R.cd (fun zc3 => ?_) (fun zc3 => ?_)
      ·
        have hbn : b ≤ xs.length := by simpa using zc3
        refine Run.skip ?_
        refine Run.block ?_
        refine R.sq ?_
        refine R.rg ?_
        refine R.mv ?_
        refine R.mv ?_
        refine R.mv ?_
        refine R.mv ?_
        refine R.ad ?_
        refine R.mv ?_
        refine R.mv ?_
        refine R.ca Try.call85 (symMerge_spec _ a (a + bs) b rfl (by omega) (by omega) (by omega) (by omega) (by omega) hOc) ?_
        rintro _ _ _ ⟨rfl, zs', q', hO', hp', rfl⟩
        have hOc := hO'
        have hpx := hp'.trans hpx
        have hlx := hpx.length_eq
        refine R.nl ?_
        refine R.hs (e' := [(0, _), (1, _), (2, _), (6, _), (8, _)]) ?_
        refine R.sq ?_
        refine R.rg ?_
        refine R.mv ?_
        refine R.as ?_
        refine R.nl ?_
        refine R.hs (e' := [(0, _), (1, _), (2, _), (6, _), (7, _), (8, _)]) ?_
        refine R.rg ?_
        refine R.mv ?_
        refine R.mv ?_
        refine R.ml ?_
        refine R.ad ?_
        refine R.as ?_
        refine R.nl ?_
        refine R.hs (e' := [(0, _), (1, _), (2, _), (6, _), (7, _), (8, _)]) ?_
        refine Run.endBlock ?_
        exact Run.again (b, b + 2 * bs, zs', q') ⟨by simp <;> omega, by simp, by simp <;> omega, hpx, hOc⟩ (by simp <;> omega) (by refine ⟨rfl, rfl, ?_⟩; repeat (first | exact trivial | refine ⟨rfl, ?_⟩)) (fun w hs => hs)
      ·
        refine Run.exit rfl ?_
        refine R.sq ?_
        refine R.sq ?_
        refine R.rg ?_
        refine R.mv ?_
        refine R.mv ?_
        refine R.ad ?_
        refine R.as ?_
        refine R.nl ?_
        refine R.hs (e' := [(0, _), (1, _), (2, _), (6, _), (7, _), (9, _)]) ?_
        refine R.sq ?_
        refine R.rg ?_
        refine R.mv ?_
        refine R.mv ?_
        refine R.cm ?_
        refine R.nl ?_
        refine R.hs (e' := [(0, _), (1, _), (2, _), (6, _), (7, _), (9, _), (54, _)]) ?_
        refine R.cd (fun zc4 => ?_) (fun zc4 => ?_)
        ·
          have hbn : a + bs < xs.length := by simpa using zc4
          refine R.rg ?_
          refine R.mv ?_
          refine R.mv ?_
          refine R.mv ?_
          refine R.mv ?_
          refine R.mv ?_
          refine R.ca Try.call85 (symMerge_spec _ a (a + bs) xs.length rfl (by omega) (by omega) (by omega) (by omega) (by omega) hOc) ?_
          rintro _ _ _ ⟨rfl, zs', q', hO', hp', rfl⟩
          have hOc := hO'
          have hpx := hp'.trans hpx
          have hlx := hpx.length_eq
          refine R.nl ?_
          refine R.hs (e' := [(0, _), (1, _), (2, _), (6, _)]) ?_
          refine R.rg ?_
          refine R.mv ?_
          refine R.ml ?_
          refine R.as ?_
          refine R.nl ?_
          refine R.hs (e' := [(0, _), (1, _), (2, _), (6, _)]) ?_
          refine Run.endBlock ?_
          exact Run.again (bs * 2, _, _) ⟨by simp <;> omega, by simp <;> omega, hpx, hOc⟩ (by simp <;> omega) (by repeat (first | exact trivial | refine ⟨rfl, ?_⟩)) (fun w hs => hs)
        ·
          refine Run.skip ?_
          refine R.rg ?_
          refine R.mv ?_
          refine R.ml ?_
          refine R.as ?_
          refine R.nl ?_
          refine R.hs (e' := [(0, _), (1, _), (2, _), (6, _)]) ?_
          refine Run.endBlock ?_
          exact Run.again (bs * 2, _, _) ⟨by simp <;> omega, by simp <;> omega, hpx, hOc⟩ (by simp <;> omega) (by repeat (first | exact trivial | refine ⟨rfl, ?_⟩)) (fun w hs => hs)
    ·
      refine Run.exit rfl ?_
      exact R.fn (u := .tuple #[]) .nil 0 ⟨rfl, _, _, hOc, hpx, rfl⟩
theorem sortStable_spec {g : Gl} {D : Dict} {q Z : MList} {v : Value} {xs : List Vw} (hml : xs.length ≤ 1000000) (ho : VR v xs q) :
    Spec Try.prog g 66 [v, .func (.func 67) #[] #[]] D (q ++ Z) (Kept q Z D v xs) := by
  obtain ⟨A, c, rfl, _⟩ := ho.form
  refine Spec.enter Try.func66 rfl Try.ntmps66 rfl ?_
  refine R.rg ?_
  refine R.mv ?_
  refine R.mv ?_
  refine R.ln Try.runUnderlying73 ?_
  refine R.mv ?_
  refine R.ca Try.call73 (stable_spec hml ho) ?_
  rintro _ _ _ ⟨rfl, zs', q', hO', hp', rfl⟩
  refine R.nl ?_
  refine R.hs (e' := []) ?_
  exact R.fn (u := .tuple #[]) .nil 0 ⟨rfl, _, _, hO', hp', rfl⟩
end Go.Proofs.Ytgdpjpmjcpieiaa
