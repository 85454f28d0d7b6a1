/- What comes in: heights, views. No condition. -/
import Derived.Test.YtgdpjpmjcpieiaaRd
import Derived.Test.YtgdpjpmjcpieiaaV1
namespace Go.Proofs.Ytgdpjpmjcpieiaa
open Go Go.ChangeShapes Go.WideShapes Go.ChangeAt Go.RowKit
set_option linter.unusedVariables false
set_option linter.unusedSimpArgs false
set_option maxRecDepth 100000
theorem own : ownKnob Try.prog.godebug = none := by kernel_rfl
theorem laidOut : laidOutB Try.prog = true := by kernel_rfl
def inH (h : Ht) : Prop := inI h.tau ∧ inI h.oid ∧ inI h.r ∧ inI h.delta ∧ inI h.id
theorem cells23 : Try.prog.cellsOf 23 = 6 := by kernel_rfl
theorem cells36 : Try.prog.cellsOf 36 = 7 := by kernel_rfl
theorem cells3 : Try.prog.cellsOf 3 = 1 := by kernel_rfl
theorem cells4 : Try.prog.cellsOf 4 = 1 := by kernel_rfl
theorem rdInt {w : World} : Rds Try.prog w 3 fun cs => ∃ n, cs = [.int .i64 n] ∧ inI n := Rds.int Try.underlying3
theorem rdBool {w : World} : Rds Try.prog w 4 fun cs => ∃ b, cs = [.bool b] := Rds.bool Try.underlying4
theorem rdHt {w : World} : Rds Try.prog w 23 fun cs => ∃ h : Ht, cs = h.cells ∧ inH h :=
  (Rds.struct Try.underlying23 (Rs := [_, _, _, _, _, _]) ⟨rdBool, rdInt, rdInt, rdInt, rdInt, rdInt, trivial⟩).mono fun cs ⟨hl, h0, h1, h2, h3, h4, h5, _⟩ => by
    rw [cells23] at hl
    match cs, hl with
    | [c0, c1, c2, c3, c4, c5], _ =>
      simp only [cells3, cells4, List.drop_zero, List.drop_succ_cons, List.take_succ_cons, List.take_zero] at h0 h1 h2 h3 h4 h5
      obtain ⟨b, h0⟩ := h0
      obtain ⟨n1, h1, r1⟩ := h1
      obtain ⟨n2, h2, r2⟩ := h2
      obtain ⟨n3, h3, r3⟩ := h3
      obtain ⟨n4, h4, r4⟩ := h4
      obtain ⟨n5, h5, r5⟩ := h5
      injection h0 with h0; injection h1 with h1; injection h2 with h2; injection h3 with h3; injection h4 with h4; injection h5 with h5
      exact ⟨⟨b, n1, n2, n3, n4, n5⟩, by simp [h0, h1, h2, h3, h4, h5], r1, r2, r3, r4, r5⟩
theorem rdVw {w : World} : Rds Try.prog w 36 fun cs => ∃ v : Vw, cs = v.cells ∧ (inI v.id ∧ inH v.h) :=
  (Rds.struct Try.underlying36 (Rs := [_, _]) ⟨rdInt, rdHt, trivial⟩).mono fun cs ⟨hl, h0, h1, _⟩ => by
    rw [cells36] at hl
    match cs, hl with
    | [c0, c1, c2, c3, c4, c5, c6], _ =>
      simp only [cells3, cells23, List.drop_zero, List.drop_succ_cons, List.take_succ_cons, List.take_zero] at h0 h1
      obtain ⟨n, h0, r0⟩ := h0
      obtain ⟨h, h1, r1⟩ := h1
      injection h0 with h0
      injection h1 with h1 g; injection g with h2 g; injection g with h3 g; injection g with h4 g; injection g with h5 g; injection g with h6 g
      exact ⟨⟨n, h⟩, by simp [h0, h1, h2, h3, h4, h5, h6], r0, r1⟩
instance : Inhabited Vw := ⟨z0V⟩
theorem rdVws {w : World} : Rds Try.prog w 24 fun cs => ∃ v xs, cs = [v] ∧ Vws (All w) v xs ∧ ∀ x ∈ xs, inI x.id ∧ inH x.h :=
  Rds.slice Try.underlying24 cells36 (by decide) Vw.cells Vw.len _ rdVw
end Go.Proofs.Ytgdpjpmjcpieiaa
