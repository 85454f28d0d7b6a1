/- Stable sorting of views: what is in a row stays in it. No condition. -/
import Derived.Test.YtgdpjpmjcpieiaaV3
import Derived.Test.YtgdpjpmjcpieiaaDraw2
namespace Go.Proofs.Ytgdpjpmjcpieiaa
open Go
set_option linter.unusedVariables false
set_option linter.unusedSimpArgs false
set_option maxRecDepth 100000
set_option maxHeartbeats 0
abbrev VR (v : Value) (zs : List Vw) (q : MList) : Prop := OL 7 Vw.cells 75 v zs q
def cmpV (a b : Vw) : Int := if lessH a.h b.h then -1 else if lessH b.h a.h then 1 else 0
theorem cmpV_spec {g : Gl} {D : Dict} {M : MList} (a b : Vw) : Gives Try.prog g 67 [.agg (Vw.cells a).toArray, .agg (Vw.cells b).toArray] D M (.int .i64 (cmpV a b)) := by
  refine Gives.enter Try.func67 rfl Try.ntmps67 ?_
  refine R.sq ?_
  refine R.rg ?_
  refine R.bxA (fun zb1 hzb1 => ?_)
  refine R.bxA (fun zb2 hzb2 => ?_)
  refine R.as ?_
  refine R.nl ?_
  refine R.hs (e' := [(2, _), (3, _)]) ?_
  refine R.sq ?_
  refine Run.block ?_
  refine R.sq ?_
  refine R.rg ?_
  refine R.fa Try.runUnderlying75 Try.sizeOf23 ?_
  refine R.lA 6 Try.isAgg23 Try.sizeOf23 ?_
  refine R.fa Try.runUnderlying75 Try.sizeOf23 ?_
  refine R.lA 6 Try.isAgg23 Try.sizeOf23 ?_
  refine R.cg Try.call16 (less_spec ⟨_, _, _, _, _, _⟩ ⟨_, _, _, _, _, _⟩) ?_
  refine R.as ?_
  refine R.nl ?_
  refine R.hs (e' := [(2, _), (3, _), (5, _)]) ?_
  refine R.cd (fun zc3 => ?_) (fun zc3 => ?_)
  ·
    refine R.sq ?_
    refine R.rg ?_
    refine R.as ?_
    refine R.nl ?_
    refine R.hs (e' := [(4, _)]) ?_
    refine R.rt (RV.t .nil) 2 (congrArg (Value.int .i64) ?_)
    simp only [Ht.eta] at *; simp_all [cmpV]
  ·
    refine R.sq ?_
    refine R.rg ?_
    refine R.fa Try.runUnderlying75 Try.sizeOf23 ?_
    refine R.lA 6 Try.isAgg23 Try.sizeOf23 ?_
    refine R.fa Try.runUnderlying75 Try.sizeOf23 ?_
    refine R.lA 6 Try.isAgg23 Try.sizeOf23 ?_
    refine R.cg Try.call16 (less_spec ⟨_, _, _, _, _, _⟩ ⟨_, _, _, _, _, _⟩) ?_
    refine R.as ?_
    refine R.nl ?_
    refine R.hs (e' := [(11, _)]) ?_
    refine R.cd (fun zc4 => ?_) (fun zc4 => ?_)
    ·
      refine R.sq ?_
      refine R.rg ?_
      refine R.as ?_
      refine R.nl ?_
      refine R.hs (e' := [(4, _)]) ?_
      refine R.rt (RV.t .nil) 2 (congrArg (Value.int .i64) ?_)
      simp only [Ht.eta] at *; simp_all [cmpV]
    ·
      refine Run.skip ?_
      refine Run.endBlock ?_
      refine R.sq ?_
      refine R.rg ?_
      refine R.as ?_
      refine R.nl ?_
      refine R.hs (e' := [(4, _)]) ?_
      refine R.rt (RV.t .nil) 2 (congrArg (Value.int .i64) ?_)
      simp only [Ht.eta] at *; simp_all [cmpV]
/-- a row of views is left in some order -/
def Kept (q Z : MList) (D : Dict) (v : Value) (xs : List Vw) : Value → Dict → MList → Prop := fun _ D' M' => D = D' ∧ ∃ zs q', VR v zs q' ∧ zs.Perm xs ∧ M' = q' ++ Z
theorem VR.ix {D : Dict} {v : Value} {zs : List Vw} {q Z : MList} (h : VR v zs q) {i : Nat} {x : Vw} (hx : zs[i]? = some x) : ∃ b off, IxAt v i 7 b off ∧ CsN D (q ++ Z) b off 7 x.cells :=
  h.at (fun p hp => List.mem_append_left _ hp) Vw.len hx
theorem swapRange_spec {g : Gl} {D : Dict} {q Z : MList} {v u : Value} {xs : List Vw} (a b n : Int) (ha0 : 0 ≤ a) (hb0 : 0 ≤ b) (hn0 : 0 ≤ n) (ha : a + n ≤ xs.length) (hb : b + n ≤ xs.length) (hml : xs.length ≤ 1000000) (ho : VR v xs q) :
    Spec Try.prog g 93 [v, .int .i64 a, .int .i64 b, .int .i64 n, u] D (q ++ Z) (Kept q Z D v xs) := by
  refine Spec.enter Try.func93 rfl Try.ntmps93 rfl ?_
  refine R.sq ?_
  refine R.rg ?_
  refine R.as ?_
  refine R.nl ?_
  refine R.hs (e' := [(0, _), (1, _), (2, _), (3, _), (10, _)]) ?_
  refine Run.block ?_
  refine Run.loop (ι := Int × List Vw × MList) [(0, _), (1, _), (2, _), (3, _)] (fun p => [(10, .int .i64 p.1)]) (fun _ => D) (fun p => p.2.2 ++ Z) (fun p => 0 ≤ p.1 ∧ p.1 ≤ n ∧ p.2.1.Perm xs ∧ VR v p.2.1 p.2.2) (fun p => (n - p.1).toNat) ((0, xs, q)) (by repeat (first | exact trivial | refine ⟨rfl, ?_⟩)) ?h0 (by repeat (first | exact trivial | refine ⟨rfl, ?_⟩)) (fun w hs => hs) ?_
  case h0 => exact ⟨Int.le_refl _, hn0, List.Perm.refl _, ho⟩
  rintro ⟨i, zs, q0⟩ ⟨h0, hi, hp, hO⟩
  simp only at h0 hi hp hO
  have hzl := hp.length_eq
  refine R.sq ?_
  refine R.sq ?_
  refine R.rg ?_
  refine R.mv ?_
  refine R.mv ?_
  refine R.cm ?_
  refine R.nl ?_
  refine R.hs (e' := [(0, _), (1, _), (2, _), (3, _), (10, _), (13, _)]) ?_
  refine R.cd (fun zc1 => ?_) (fun zc1 => ?_)
  ·
    have hlt : i < n := by simpa using zc1
    obtain ⟨x, hgx⟩ := get_of_lt (xs := zs) (i := (a + i).toNat) (by omega)
    obtain ⟨y, hgy⟩ := get_of_lt (xs := zs) (i := (b + i).toNat) (by omega)
    obtain ⟨b1, o1, hI1, hc1⟩ := hO.ix (D := D) (Z := Z) hgx
    obtain ⟨b2, o2, hI2, hc2⟩ := hO.ix (D := D) (Z := Z) hgy
    refine Run.skip ?_
    refine R.sq ?_
    refine Run.block ?_
    refine Run.drawX Grow.eq 22 21 (fun M' => ∃ q1, VR v (zs.set (a + i).toNat y) q1 ∧ M' = q1 ++ Z) [(0, _), (1, _), (2, _), (3, _), (10, _)] mix (by kernel_rfl) (by repeat (first | exact trivial | refine ⟨rfl, ?_⟩)) ?_
    apply TX.val []
    · exact rfl
    · kernel_rfl
    ·
      rintro _ rfl 
      refine R.mv ?_
      refine R.nl ?_
      exact Run.loc rfl rfl rfl
    apply TX.val []
    · exact rfl
    · kernel_rfl
    ·
      rintro _ rfl 
      refine R.mv ?_
      refine R.nl ?_
      exact Run.loc rfl rfl rfl
    apply TX.val []
    · exact rfl
    · kernel_rfl
    ·
      rintro _ rfl 
      refine R.mv ?_
      refine R.nl ?_
      exact Run.loc rfl rfl rfl
    apply TX.val [1, 0]
    · exact rfl
    · kernel_rfl
    ·
      rintro _ rfl _ rfl _ rfl
      refine R.ad ?_
      refine R.nl ?_
      exact Run.loc rfl rfl rfl
    apply TX.late []
    · exact rfl
    · kernel_rfl
    ·
      intro zM hzM
      rintro _ rfl 
      refine R.mv ?_
      refine R.nl ?_
      exact Run.loc rfl rfl rfl
    apply TX.late []
    · exact rfl
    · kernel_rfl
    ·
      intro zM hzM
      rintro _ rfl 
      refine R.mv ?_
      refine R.nl ?_
      exact Run.loc rfl rfl rfl
    apply TX.late []
    · exact rfl
    · kernel_rfl
    ·
      intro zM hzM
      rintro _ rfl 
      refine R.mv ?_
      refine R.nl ?_
      exact Run.loc rfl rfl rfl
    apply TX.late [1, 0]
    · exact rfl
    · kernel_rfl
    ·
      intro zM hzM
      rintro _ rfl _ rfl _ rfl
      refine R.ad ?_
      refine R.nl ?_
      exact Run.loc rfl rfl rfl
    apply TX.val []
    · exact rfl
    · kernel_rfl
    ·
      rintro _ rfl 
      refine R.mv ?_
      refine R.nl ?_
      exact Run.loc rfl rfl rfl
    apply TX.val []
    · exact rfl
    · kernel_rfl
    ·
      rintro _ rfl 
      refine R.mv ?_
      refine R.nl ?_
      exact Run.loc rfl rfl rfl
    apply TX.val []
    · exact rfl
    · kernel_rfl
    ·
      rintro _ rfl 
      refine R.mv ?_
      refine R.nl ?_
      exact Run.loc rfl rfl rfl
    apply TX.val [1, 0]
    · exact rfl
    · kernel_rfl
    ·
      rintro _ rfl _ rfl _ rfl
      refine R.ad ?_
      refine R.nl ?_
      exact Run.loc rfl rfl rfl
    apply TX.val [3, 0]
    · exact rfl
    · kernel_rfl
    ·
      rintro _ rfl _ rfl _ rfl
      refine R.ix (hI2) Try.runUnderlying73 Try.sizeOf75 ?_
      refine R.nl ?_
      exact Run.loc rfl rfl rfl
    apply TX.val [0]
    · exact rfl
    · kernel_rfl
    ·
      rintro _ rfl _ rfl
      refine R.lAD 7 Try.isAgg75 Try.sizeOf75 ?_
      refine R.nl ?_
      exact Run.loc rfl rfl rfl
    apply TX.val []
    · exact rfl
    · kernel_rfl
    ·
      rintro _ rfl 
      refine R.mv ?_
      refine R.nl ?_
      exact Run.loc rfl rfl rfl
    apply TX.val []
    · exact rfl
    · kernel_rfl
    ·
      rintro _ rfl 
      refine R.mv ?_
      refine R.nl ?_
      exact Run.loc rfl rfl rfl
    apply TX.val []
    · exact rfl
    · kernel_rfl
    ·
      rintro _ rfl 
      refine R.mv ?_
      refine R.nl ?_
      exact Run.loc rfl rfl rfl
    apply TX.val [1, 0]
    · exact rfl
    · kernel_rfl
    ·
      rintro _ rfl _ rfl _ rfl
      refine R.ad ?_
      refine R.nl ?_
      exact Run.loc rfl rfl rfl
    apply TX.val [3, 0]
    · exact rfl
    · kernel_rfl
    ·
      rintro _ rfl _ rfl _ rfl
      refine R.ix (hI1) Try.runUnderlying73 Try.sizeOf75 ?_
      refine R.nl ?_
      exact Run.loc rfl rfl rfl
    apply TX.val [0]
    · exact rfl
    · kernel_rfl
    ·
      rintro _ rfl _ rfl
      refine R.lAD 7 Try.isAgg75 Try.sizeOf75 ?_
      refine R.nl ?_
      exact Run.loc rfl rfl rfl
    apply TX.val [19, 16]
    · exact rfl
    · kernel_rfl
    ·
      rintro _ rfl _ rfl _ rfl
      refine R.ix (hI1) Try.runUnderlying73 Try.sizeOf75 ?_
      refine R.nl ?_
      exact Run.loc rfl rfl rfl
    apply TX.eff [7, 0]
    · exact rfl
    · kernel_rfl
    ·
      rintro _ rfl _ rfl _ rfl
      refine R.so y hO hI1 Vw.len Try.sizeOf75 (fun q1 hO1 => ?_)
      refine R.nl ?_
      exact Run.effd rfl (⟨q1, hO1, rfl⟩)
    refine TX.fin (by rfl) ?_
    rintro zM ⟨q1, hO1, rfl⟩
    rintro _ rfl  _ rfl _ rfl _ rfl _ rfl _ rfl _ rfl _ rfl _ rfl _ rfl _ rfl _ rfl _ rfl _ rfl _ rfl _ rfl _ rfl _ rfl _ rfl _ rfl _ rfl _ rfl
    refine R.ix (hI2) Try.runUnderlying73 Try.sizeOf75 ?_
    refine R.so x hO1 hI2 Vw.len Try.sizeOf75 (fun q2 hO2 => ?_)
    refine R.nl ?_
    refine R.hs (e' := [(0, _), (1, _), (2, _), (3, _), (10, _)]) ?_
    refine Run.endBlock ?_
    refine R.rg ?_
    refine R.mv ?_
    refine R.ad ?_
    refine R.as ?_
    refine R.nl ?_
    refine R.hs (e' := [(0, _), (1, _), (2, _), (3, _), (10, _)]) ?_
    exact Run.again (i + 1, _, q2) ⟨by simp; omega, by simp; omega, (swap_perm hgx hgy).trans hp, hO2⟩ (by simp; omega) (by repeat (first | exact trivial | refine ⟨rfl, ?_⟩)) (fun w hs => hs)
  ·
    refine Run.exit rfl ?_
    exact R.fn (u := .tuple #[]) .nil 0 ⟨rfl, zs, q0, hO, hp, rfl⟩
theorem rotate_spec {g : Gl} {D : Dict} {q Z : MList} {v u : Value} {xs : List Vw} (a m b : Int) (ha0 : 0 ≤ a) (ham : a < m) (hmb : m < b) (hb : b ≤ xs.length) (hml : xs.length ≤ 1000000) (ho : VR v xs q) :
    Spec Try.prog g 91 [v, .int .i64 a, .int .i64 m, .int .i64 b, u] D (q ++ Z) (Kept q Z D v xs) := by
  refine Spec.enter Try.func91 rfl Try.ntmps91 rfl ?_
  refine R.sq ?_
  refine R.rg ?_
  refine R.mv ?_
  refine R.mv ?_
  refine R.sb ?_
  refine R.as ?_
  refine R.nl ?_
  refine R.hs (e' := [(0, _), (2, _), (3, _), (4, _), (10, _)]) ?_
  refine R.sq ?_
  refine R.rg ?_
  refine R.mv ?_
  refine R.mv ?_
  refine R.sb ?_
  refine R.as ?_
  refine R.nl ?_
  refine R.hs (e' := [(0, _), (2, _), (4, _), (10, _), (11, _)]) ?_
  refine R.sq ?_
  refine Run.block ?_
  refine Run.loop (ι := Int × Int × List Vw × MList) [(0, _), (2, _), (4, _)] (fun p => [(10, .int .i64 p.1), (11, .int .i64 p.2.1)]) (fun _ => D) (fun p => p.2.2.2 ++ Z) (fun p => 0 < p.1 ∧ 0 < p.2.1 ∧ p.1 ≤ m - a ∧ p.2.1 ≤ b - m ∧ p.2.2.1.Perm xs ∧ VR v p.2.2.1 p.2.2.2) (fun p => (p.1 + p.2.1).toNat) ((m - a, b - m, xs, q)) (by repeat (first | exact trivial | refine ⟨rfl, ?_⟩)) ?h0 (by repeat (first | exact trivial | refine ⟨rfl, ?_⟩)) (fun w hs => hs) ?_
  case h0 => exact ⟨by simp; omega, by simp; omega, Int.le_refl _, Int.le_refl _, List.Perm.refl _, ho⟩
  rintro ⟨i, j, zs, q0⟩ ⟨hi0, hj0, hi, hj, hp, hO⟩
  simp only at hi0 hj0 hi hj hp hO
  have hzl := hp.length_eq
  refine R.sq ?_
  refine R.sq ?_
  refine R.rg ?_
  refine R.mv ?_
  refine R.mv ?_
  refine R.cm ?_
  refine R.nl ?_
  refine R.hs (e' := [(0, _), (2, _), (4, _), (10, _), (11, _), (20, _)]) ?_
  refine R.cd (fun zc1 => ?_) (fun zc1 => ?_)
  ·
    have hij : i ≠ j := by simpa using zc1
    refine Run.skip ?_
    refine Run.block ?_
    refine R.sq ?_
    refine R.rg ?_
    refine R.mv ?_
    refine R.mv ?_
    refine R.cm ?_
    refine R.nl ?_
    refine R.hs (e' := [(0, _), (2, _), (4, _), (10, _), (11, _), (23, _)]) ?_
    refine R.cd (fun zc2 => ?_) (fun zc2 => ?_)
    ·
      have hgt : i > j := by simpa using zc2
      refine R.sq ?_
      refine R.rg ?_
      refine R.mv ?_
      refine R.mv ?_
      refine R.mv ?_
      refine R.sb ?_
      refine R.mv ?_
      refine R.mv ?_
      refine R.mv ?_
      refine R.ca Try.call93 (swapRange_spec (m - i) m j (by omega) (by omega) (by omega) (by omega) (by omega) (by omega) hO) ?_
      rintro _ _ _ ⟨rfl, zs', q', hO', hp', rfl⟩
      refine R.nl ?_
      refine R.hs (e' := [(0, _), (2, _), (4, _), (10, _), (11, _)]) ?_
      refine R.rg ?_
      refine R.mv ?_
      refine R.mv ?_
      refine R.sb ?_
      refine R.as ?_
      refine R.nl ?_
      refine R.hs (e' := [(0, _), (2, _), (4, _), (10, _), (11, _)]) ?_
      refine Run.endBlock ?_
      first | exact Run.again (i - j, j, zs', q') ⟨by simp; omega, by simp; omega, by simp; omega, by simp; omega, hp'.trans hp, hO'⟩ (by simp; omega) (by refine ⟨rfl, rfl, ?_⟩; repeat (first | exact trivial | refine ⟨rfl, ?_⟩)) (fun w hs => hs) | exact Run.again (i, j - i, zs', q') ⟨by simp; omega, by simp; omega, by simp; omega, by simp; omega, hp'.trans hp, hO'⟩ (by simp; omega) (by refine ⟨rfl, rfl, ?_⟩; repeat (first | exact trivial | refine ⟨rfl, ?_⟩)) (fun w hs => hs)
    ·
      have hgt : ¬ i > j := by simpa using zc2
      refine R.sq ?_
      refine R.rg ?_
      refine R.mv ?_
      refine R.mv ?_
      refine R.mv ?_
      refine R.sb ?_
      refine R.mv ?_
      refine R.mv ?_
      refine R.ad ?_
      refine R.mv ?_
      refine R.sb ?_
      refine R.mv ?_
      refine R.mv ?_
      refine R.ca Try.call93 (swapRange_spec (m - i) (m + j - i) i (by omega) (by omega) (by omega) (by omega) (by omega) (by omega) hO) ?_
      rintro _ _ _ ⟨rfl, zs', q', hO', hp', rfl⟩
      refine R.nl ?_
      refine R.hs (e' := [(0, _), (2, _), (4, _), (10, _), (11, _)]) ?_
      refine R.rg ?_
      refine R.mv ?_
      refine R.mv ?_
      refine R.sb ?_
      refine R.as ?_
      refine R.nl ?_
      refine R.hs (e' := [(0, _), (2, _), (4, _), (10, _), (11, _)]) ?_
      refine Run.endBlock ?_
      first | exact Run.again (i - j, j, zs', q') ⟨by simp; omega, by simp; omega, by simp; omega, by simp; omega, hp'.trans hp, hO'⟩ (by simp; omega) (by refine ⟨rfl, rfl, ?_⟩; repeat (first | exact trivial | refine ⟨rfl, ?_⟩)) (fun w hs => hs) | exact Run.again (i, j - i, zs', q') ⟨by simp; omega, by simp; omega, by simp; omega, by simp; omega, hp'.trans hp, hO'⟩ (by simp; omega) (by refine ⟨rfl, rfl, ?_⟩; repeat (first | exact trivial | refine ⟨rfl, ?_⟩)) (fun w hs => hs)
  ·
    have hij : i = j := by simpa using zc1
    refine Run.exit rfl ?_
    refine R.rg ?_
    refine R.mv ?_
    refine R.mv ?_
    refine R.mv ?_
    refine R.sb ?_
    refine R.mv ?_
    refine R.mv ?_
    refine R.mv ?_
    refine R.ca Try.call93 (swapRange_spec (m - i) m i (by omega) (by omega) (by omega) (by omega) (by omega) (by omega) hO) ?_
    rintro _ _ _ ⟨rfl, zs', q', hO', hp', rfl⟩
    refine R.nl ?_
    refine R.hs (e' := []) ?_
    exact R.fn (u := .tuple #[]) .nil 0 ⟨rfl, zs', q', hO', hp'.trans hp, rfl⟩
theorem insSort_spec {g : Gl} {D : Dict} {q Z : MList} {v : Value} {xs : List Vw} (a b : Int) (ha0 : 0 ≤ a) (hab : a ≤ b) (hb : b ≤ xs.length) (hml : xs.length ≤ 1000000) (ho : VR v xs q) :
    Spec Try.prog g 84 [v, .int .i64 a, .int .i64 b, .func (.func 67) #[] #[]] D (q ++ Z) (Kept q Z D v xs) := by
  refine Spec.enter Try.func84 rfl Try.ntmps84 rfl ?_
  refine R.sq ?_
  refine R.rg ?_
  refine R.mv ?_
  refine R.ad ?_
  refine R.as ?_
  refine R.nl ?_
  refine R.hs (e' := [(0, _), (1, _), (2, _), (3, _), (8, _)]) ?_
  refine Run.block ?_
  refine Run.loop (ι := Int × List Vw × MList) [(0, _), (1, _), (2, _), (3, _)] (fun p => [(8, .int .i64 p.1)]) (fun _ => D) (fun p => p.2.2 ++ Z) (fun p => a < p.1 ∧ p.2.1.Perm xs ∧ VR v p.2.1 p.2.2) (fun p => (b - p.1).toNat) ((a + 1, xs, q)) (by repeat (first | exact trivial | refine ⟨rfl, ?_⟩)) ?h0 (by repeat (first | exact trivial | refine ⟨rfl, ?_⟩)) (fun w hs => hs) ?_
  case h0 => exact ⟨by simp; omega, List.Perm.refl _, ho⟩
  rintro ⟨i, zs, q0⟩ ⟨hai, hp, hO⟩
  simp only at hai hp hO
  have hzl := hp.length_eq
  refine R.sq ?_
  refine R.sq ?_
  refine R.rg ?_
  refine R.mv ?_
  refine R.mv ?_
  refine R.cm ?_
  refine R.nl ?_
  refine R.hs (e' := [(0, _), (1, _), (2, _), (3, _), (8, _), (14, _)]) ?_
  refine R.cd (fun zc1 => ?_) (fun zc1 => ?_)
  ·
    have hlt : i < b := by simpa using zc1
    refine Run.skip ?_
    refine R.sq ?_
    refine Run.block ?_
    refine R.sq ?_
    refine R.rg ?_
    refine R.mv ?_
    refine R.as ?_
    refine R.nl ?_
    refine R.hs (e' := [(0, _), (1, _), (2, _), (3, _), (8, _), (9, _)]) ?_
    refine Run.block ?_
    refine Run.loop (ι := Int × List Vw × MList) [(0, _), (1, _), (2, _), (3, _), (8, _)] (fun p => [(9, .int .i64 p.1)]) (fun _ => D) (fun p => p.2.2 ++ Z) (fun p => a ≤ p.1 ∧ p.1 ≤ i ∧ p.2.1.Perm xs ∧ VR v p.2.1 p.2.2) (fun p => p.1.toNat) ((i, zs, q0)) (by repeat (first | exact trivial | refine ⟨rfl, ?_⟩)) ?h0 (by repeat (first | exact trivial | refine ⟨rfl, ?_⟩)) (fun w hs => hs) ?_
    case h0 => exact ⟨by simp; omega, Int.le_refl _, hp, hO⟩
    rintro ⟨j, ws, q1⟩ ⟨haj, hji, hpw, hOw⟩
    simp only at haj hji hpw hOw
    have hwl := hpw.length_eq
    obtain ⟨x, hgx⟩ := get_of_lt (xs := ws) (i := j.toNat) (by omega)
    obtain ⟨y, hgy⟩ := get_of_lt (xs := ws) (i := (j - 1).toNat) (by omega)
    obtain ⟨b1, o1, hI1, hc1⟩ := hOw.ix (D := D) (Z := Z) hgx
    obtain ⟨b2, o2, hI2, hc2⟩ := hOw.ix (D := D) (Z := Z) hgy
    refine R.sq ?_
    refine R.sq ?_
    rcases Bool.eq_false_or_eq_true (decide (j > a)) with zg2 | zg2
    ·
      refine Run.drawC Grow.eq 14 [(0, _), (1, _), (2, _), (3, _), (8, _), (9, _)] mix (by kernel_rfl) (by repeat (first | exact trivial | refine ⟨rfl, ?_⟩)) ?_
      apply TC.val []
      · exact rfl
      · kernel_rfl
      ·
        rintro _ rfl 
        refine R.mv ?_
        refine R.nl ?_
        exact Run.loc rfl rfl rfl
      apply TC.val []
      · exact rfl
      · kernel_rfl
      ·
        rintro _ rfl 
        refine R.mv ?_
        refine R.nl ?_
        exact Run.loc rfl rfl rfl
      apply TC.val [1, 0]
      · exact rfl
      · kernel_rfl
      ·
        rintro _ rfl _ rfl _ rfl
        refine R.cm ?_
        refine R.nl ?_
        exact Run.loc rfl rfl rfl
      apply TC.val [0]
      · exact rfl
      · kernel_rfl
      ·
        rintro _ rfl _ rfl
        refine R.mv ?_
        refine R.nl ?_
        exact Run.loc rfl rfl rfl
      apply TC.val [0]
      · exact rfl
      · kernel_rfl
      ·
        rintro _ rfl _ rfl
        refine R.gY (zg2) ?_
        refine R.mv ?_
        refine R.nl ?_
        exact Run.loc rfl rfl rfl
      apply TC.val [1]
      · exact rfl
      · kernel_rfl
      ·
        rintro _ rfl _ rfl
        refine R.gY (zg2) ?_
        refine R.mv ?_
        refine R.nl ?_
        exact Run.loc rfl rfl rfl
      apply TC.val [2]
      · exact rfl
      · kernel_rfl
      ·
        rintro _ rfl _ rfl
        refine R.gY (zg2) ?_
        refine R.mv ?_
        refine R.nl ?_
        exact Run.loc rfl rfl rfl
      apply TC.val [3, 1, 0]
      · exact rfl
      · kernel_rfl
      ·
        rintro _ rfl _ rfl _ rfl _ rfl
        refine R.gY (zg2) ?_
        refine R.ix (hI1) Try.runUnderlying73 Try.sizeOf75 ?_
        refine R.nl ?_
        exact Run.loc rfl rfl rfl
      apply TC.val [4, 0]
      · exact rfl
      · kernel_rfl
      ·
        rintro _ rfl _ rfl _ rfl
        refine R.gY (zg2) ?_
        refine R.lAD 7 Try.isAgg75 Try.sizeOf75 ?_
        refine R.nl ?_
        exact Run.loc rfl rfl rfl
      apply TC.val [5]
      · exact rfl
      · kernel_rfl
      ·
        rintro _ rfl _ rfl
        refine R.gY (zg2) ?_
        refine R.mv ?_
        refine R.nl ?_
        exact Run.loc rfl rfl rfl
      apply TC.val [6]
      · exact rfl
      · kernel_rfl
      ·
        rintro _ rfl _ rfl
        refine R.gY (zg2) ?_
        refine R.mv ?_
        refine R.nl ?_
        exact Run.loc rfl rfl rfl
      apply TC.val [7, 0]
      · exact rfl
      · kernel_rfl
      ·
        rintro _ rfl _ rfl _ rfl
        refine R.gY (zg2) ?_
        refine R.sb ?_
        refine R.nl ?_
        exact Run.loc rfl rfl rfl
      apply TC.val [8, 2, 0]
      · exact rfl
      · kernel_rfl
      ·
        rintro _ rfl _ rfl _ rfl _ rfl
        refine R.gY (zg2) ?_
        refine R.ix (hI2) Try.runUnderlying73 Try.sizeOf75 ?_ (hj := by have := of_decide_eq_true (by assumption : decide (j > a) = true); omega)
        refine R.nl ?_
        exact Run.loc rfl rfl rfl
      apply TC.val [9, 0]
      · exact rfl
      · kernel_rfl
      ·
        rintro _ rfl _ rfl _ rfl
        refine R.gY (zg2) ?_
        refine R.lAD 7 Try.isAgg75 Try.sizeOf75 ?_
        refine R.nl ?_
        exact Run.loc rfl rfl rfl
      refine TC.fin (by rfl) ?_
      rintro _ rfl _ rfl _ rfl _ rfl _ rfl _ rfl _ rfl _ rfl _ rfl _ rfl _ rfl _ rfl _ rfl _ rfl _ rfl
      refine R.gY (zg2) ?_
      refine R.cy (Try.call67) (cmpV_spec x y) ?_
      refine R.gY (zg2) ?_
      refine R.cm ?_
      refine R.pT (zg2) ?_
      refine R.nl ?_
      refine R.hs (e' := [(0, _), (1, _), (2, _), (3, _), (8, _), (9, _), (34, _)]) ?_
      refine R.cd (fun zc18 => ?_) (fun zc18 => ?_)
      ·
        have hja : j > a := by simp_all
        refine Run.skip ?_
        refine R.sq ?_
        refine Run.block ?_
        refine Run.drawX Grow.eq 16 15 (fun M' => ∃ q2, VR v (ws.set j.toNat y) q2 ∧ M' = q2 ++ Z) [(0, _), (1, _), (2, _), (3, _), (8, _), (9, _)] mix (by kernel_rfl) (by repeat (first | exact trivial | refine ⟨rfl, ?_⟩)) ?_
        apply TX.val []
        · exact rfl
        · kernel_rfl
        ·
          rintro _ rfl 
          refine R.mv ?_
          refine R.nl ?_
          exact Run.loc rfl rfl rfl
        apply TX.val []
        · exact rfl
        · kernel_rfl
        ·
          rintro _ rfl 
          refine R.mv ?_
          refine R.nl ?_
          exact Run.loc rfl rfl rfl
        apply TX.late []
        · exact rfl
        · kernel_rfl
        ·
          intro zM hzM
          rintro _ rfl 
          refine R.mv ?_
          refine R.nl ?_
          exact Run.loc rfl rfl rfl
        apply TX.late []
        · exact rfl
        · kernel_rfl
        ·
          intro zM hzM
          rintro _ rfl 
          refine R.mv ?_
          refine R.nl ?_
          exact Run.loc rfl rfl rfl
        apply TX.late [0]
        · exact rfl
        · kernel_rfl
        ·
          intro zM hzM
          rintro _ rfl _ rfl
          refine R.sb ?_
          refine R.nl ?_
          exact Run.loc rfl rfl rfl
        apply TX.val []
        · exact rfl
        · kernel_rfl
        ·
          rintro _ rfl 
          refine R.mv ?_
          refine R.nl ?_
          exact Run.loc rfl rfl rfl
        apply TX.val []
        · exact rfl
        · kernel_rfl
        ·
          rintro _ rfl 
          refine R.mv ?_
          refine R.nl ?_
          exact Run.loc rfl rfl rfl
        apply TX.val [0]
        · exact rfl
        · kernel_rfl
        ·
          rintro _ rfl _ rfl
          refine R.sb ?_
          refine R.nl ?_
          exact Run.loc rfl rfl rfl
        apply TX.val [2, 0]
        · exact rfl
        · kernel_rfl
        ·
          rintro _ rfl _ rfl _ rfl
          refine R.ix (hI2) Try.runUnderlying73 Try.sizeOf75 ?_
          refine R.nl ?_
          exact Run.loc rfl rfl rfl
        apply TX.val [0]
        · exact rfl
        · kernel_rfl
        ·
          rintro _ rfl _ rfl
          refine R.lAD 7 Try.isAgg75 Try.sizeOf75 ?_
          refine R.nl ?_
          exact Run.loc rfl rfl rfl
        apply TX.val []
        · exact rfl
        · kernel_rfl
        ·
          rintro _ rfl 
          refine R.mv ?_
          refine R.nl ?_
          exact Run.loc rfl rfl rfl
        apply TX.val []
        · exact rfl
        · kernel_rfl
        ·
          rintro _ rfl 
          refine R.mv ?_
          refine R.nl ?_
          exact Run.loc rfl rfl rfl
        apply TX.val [1, 0]
        · exact rfl
        · kernel_rfl
        ·
          rintro _ rfl _ rfl _ rfl
          refine R.ix (hI1) Try.runUnderlying73 Try.sizeOf75 ?_
          refine R.nl ?_
          exact Run.loc rfl rfl rfl
        apply TX.val [0]
        · exact rfl
        · kernel_rfl
        ·
          rintro _ rfl _ rfl
          refine R.lAD 7 Try.isAgg75 Try.sizeOf75 ?_
          refine R.nl ?_
          exact Run.loc rfl rfl rfl
        apply TX.val [13, 12]
        · exact rfl
        · kernel_rfl
        ·
          rintro _ rfl _ rfl _ rfl
          refine R.ix (hI1) Try.runUnderlying73 Try.sizeOf75 ?_
          refine R.nl ?_
          exact Run.loc rfl rfl rfl
        apply TX.eff [5, 0]
        · exact rfl
        · kernel_rfl
        ·
          rintro _ rfl _ rfl _ rfl
          refine R.so y hOw hI1 Vw.len Try.sizeOf75 (fun q2 hO2 => ?_)
          refine R.nl ?_
          exact Run.effd rfl (⟨q2, hO2, rfl⟩)
        refine TX.fin (by rfl) ?_
        rintro zM ⟨q2, hO2, rfl⟩
        rintro _ rfl  _ rfl _ rfl _ rfl _ rfl _ rfl _ rfl _ rfl _ rfl _ rfl _ rfl _ rfl _ rfl _ rfl _ rfl _ rfl
        refine R.ix (hI2) Try.runUnderlying73 Try.sizeOf75 ?_
        refine R.so x hO2 hI2 Vw.len Try.sizeOf75 (fun q3 hO3 => ?_)
        refine R.nl ?_
        refine R.hs (e' := [(0, _), (1, _), (2, _), (3, _), (8, _), (9, _)]) ?_
        refine Run.endBlock ?_
        refine R.rg ?_
        refine R.mv ?_
        refine R.sb ?_
        refine R.as ?_
        refine R.nl ?_
        refine R.hs (e' := [(0, _), (1, _), (2, _), (3, _), (8, _), (9, _)]) ?_
        exact Run.again (j - 1, _, q3) ⟨by simp; omega, by simp; omega, (swap_perm hgx hgy).trans hpw, hO3⟩ (by simp; omega) (by repeat (first | exact trivial | refine ⟨rfl, ?_⟩)) (fun w hs => hs)
      ·
        refine Run.exit rfl ?_
        refine Run.endBlock ?_
        refine R.rg ?_
        refine R.mv ?_
        refine R.ad ?_
        refine R.as ?_
        refine R.nl ?_
        refine R.hs (e' := [(0, _), (1, _), (2, _), (3, _), (8, _)]) ?_
        exact Run.again (i + 1, ws, q1) ⟨by simp; omega, hpw, hOw⟩ (by simp; omega) (by repeat (first | exact trivial | refine ⟨rfl, ?_⟩)) (fun w hs => hs)
    ·
      refine Run.drawC Grow.eq 14 [(0, _), (1, _), (2, _), (3, _), (8, _), (9, _)] mix (by kernel_rfl) (by repeat (first | exact trivial | refine ⟨rfl, ?_⟩)) ?_
      apply TC.val []
      · exact rfl
      · kernel_rfl
      ·
        rintro _ rfl 
        refine R.mv ?_
        refine R.nl ?_
        exact Run.loc rfl rfl rfl
      apply TC.val []
      · exact rfl
      · kernel_rfl
      ·
        rintro _ rfl 
        refine R.mv ?_
        refine R.nl ?_
        exact Run.loc rfl rfl rfl
      apply TC.val [1, 0]
      · exact rfl
      · kernel_rfl
      ·
        rintro _ rfl _ rfl _ rfl
        refine R.cm ?_
        refine R.nl ?_
        exact Run.loc rfl rfl rfl
      apply TC.val [0]
      · exact rfl
      · kernel_rfl
      ·
        rintro _ rfl _ rfl
        refine R.mv ?_
        refine R.nl ?_
        exact Run.loc rfl rfl rfl
      apply TC.val [0]
      · exact rfl
      · kernel_rfl
      ·
        rintro _ rfl _ rfl
        refine R.gF (zg2) ?_
        refine R.nl ?_
        exact Run.loc rfl rfl rfl
      apply TC.val [1]
      · exact rfl
      · kernel_rfl
      ·
        rintro _ rfl _ rfl
        refine R.gF (zg2) ?_
        refine R.nl ?_
        exact Run.loc rfl rfl rfl
      apply TC.val [2]
      · exact rfl
      · kernel_rfl
      ·
        rintro _ rfl _ rfl
        refine R.gF (zg2) ?_
        refine R.nl ?_
        exact Run.loc rfl rfl rfl
      apply TC.val [3, 1, 0]
      · exact rfl
      · kernel_rfl
      ·
        rintro _ rfl _ rfl _ rfl _ rfl
        refine R.gF (zg2) ?_
        refine R.nl ?_
        exact Run.loc rfl rfl rfl
      apply TC.val [4, 0]
      · exact rfl
      · kernel_rfl
      ·
        rintro _ rfl _ rfl _ rfl
        refine R.gF (zg2) ?_
        refine R.nl ?_
        exact Run.loc rfl rfl rfl
      apply TC.val [5]
      · exact rfl
      · kernel_rfl
      ·
        rintro _ rfl _ rfl
        refine R.gF (zg2) ?_
        refine R.nl ?_
        exact Run.loc rfl rfl rfl
      apply TC.val [6]
      · exact rfl
      · kernel_rfl
      ·
        rintro _ rfl _ rfl
        refine R.gF (zg2) ?_
        refine R.nl ?_
        exact Run.loc rfl rfl rfl
      apply TC.val [7, 0]
      · exact rfl
      · kernel_rfl
      ·
        rintro _ rfl _ rfl _ rfl
        refine R.gF (zg2) ?_
        refine R.nl ?_
        exact Run.loc rfl rfl rfl
      apply TC.val [8, 2, 0]
      · exact rfl
      · kernel_rfl
      ·
        rintro _ rfl _ rfl _ rfl _ rfl
        refine R.gF (zg2) ?_
        refine R.nl ?_
        exact Run.loc rfl rfl rfl
      apply TC.val [9, 0]
      · exact rfl
      · kernel_rfl
      ·
        rintro _ rfl _ rfl _ rfl
        refine R.gF (zg2) ?_
        refine R.nl ?_
        exact Run.loc rfl rfl rfl
      refine TC.fin (by rfl) ?_
      rintro _ rfl _ rfl _ rfl _ rfl _ rfl _ rfl _ rfl _ rfl _ rfl _ rfl _ rfl _ rfl _ rfl _ rfl _ rfl
      refine R.gF (zg2) ?_
      refine R.gF (zg2) ?_
      refine R.pF (zg2) ?_
      refine R.nl ?_
      refine R.hs (e' := [(0, _), (1, _), (2, _), (3, _), (8, _), (9, _), (34, _)]) ?_
      refine R.cF (rfl) ?_
      refine Run.exit rfl ?_
      refine Run.endBlock ?_
      refine R.rg ?_
      refine R.mv ?_
      refine R.ad ?_
      refine R.as ?_
      refine R.nl ?_
      refine R.hs (e' := [(0, _), (1, _), (2, _), (3, _), (8, _)]) ?_
      exact Run.again (i + 1, ws, q1) ⟨by simp; omega, hpw, hOw⟩ (by simp; omega) (by repeat (first | exact trivial | refine ⟨rfl, ?_⟩)) (fun w hs => hs)
  ·
    refine Run.exit rfl ?_
    exact R.fn (u := .tuple #[]) .nil 0 ⟨rfl, zs, q0, hO, hp, rfl⟩
end Go.Proofs.Ytgdpjpmjcpieiaa
