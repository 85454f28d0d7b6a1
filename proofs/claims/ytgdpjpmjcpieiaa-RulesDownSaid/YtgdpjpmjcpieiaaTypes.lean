/- What the types of this program come to: where fields lie, zero values, ==. By program. No condition. -/
import Derived.Test.YtgdpjpmjcpieiaaDraw
import Derived.Test.YtgdpjpmjcpieiaaProg
import Derived.Laws.StructEq
import Derived.KernelRfl
namespace Go.Proofs.Ytgdpjpmjcpieiaa
open Go
set_option linter.unusedVariables false
set_option linter.unusedSimpArgs false
theorem mix : Try.prog.follows .mixedOrders = true := by kernel_rfl
section
variable {P : Program} {d : Nat} {xs ys : List Value} {f : Field} {fs : List Field} {w : World}
theorem partOne {t : TypeId} {off : Nat} {cs : List Value} {v : Value} (hA : ∀ w, (isAgg t).run P w = .ok false w) (hc : cs[off]? = some v) : (part t cs.toArray off).run P w = .ok v w := by
  simp only [part, Sem.run_bind, hA, Result.andThen_ok, Bool.false_eq_true, if_false, List.getElem?_toArray, hc]; rfl
theorem partAgg {t : TypeId} {off sz : Nat} {cs vs : List Value} (hA : ∀ w, (isAgg t).run P w = .ok true w) (hS : ∀ w, (sizeOf t).run P w = .ok sz w) (hc : takeN off sz cs = some vs) : (part t cs.toArray off).run P w = .ok (.agg vs.toArray) w := by
  have hex : cs.toArray.extract off (off + sz) = vs.toArray := by
    obtain ⟨h1, h2⟩ := takeN_spec hc
    apply Array.ext'
    simp only [List.extract_toArray, List.extract_eq_take_drop]
    rw [Nat.add_sub_cancel_left]
    apply List.ext_getElem?
    intro j
    rw [List.getElem?_take]
    split
    · rename_i hj; rw [List.getElem?_drop]; exact h2 j hj
    · rename_i hj; rw [List.getElem?_eq_none (by omega)]
  simp only [part, Sem.run_bind, hA, Result.andThen_ok, if_true, hS, hex]; rfl
theorem sameInt {t : TypeId} {kd k0 : IntKind} (hu : ∀ w, (underlying t).run P w = .ok (.int k0) w) (a b : Int) : (Op.equalIn (d + 1) t (.int kd a) (.int kd b)).run P w = .ok (decide (a = b)) w := by
  simp only [Op.equalIn, Sem.run_bind, hu, Result.andThen_ok]
  by_cases h : a = b <;> simp [h]
theorem sameBool {t : TypeId} (hu : ∀ w, (underlying t).run P w = .ok .bool w) (a b : Bool) : (Op.equalIn (d + 1) t (.bool a) (.bool b)).run P w = .ok (decide (a = b)) w := by
  simp only [Op.equalIn, Sem.run_bind, hu, Result.andThen_ok]
  by_cases h : a = b <;> simp [h]
theorem sameStr {t : TypeId} (hu : ∀ w, (underlying t).run P w = .ok .string w) (a b : ByteArray) : (Op.equalIn (d + 1) t (.string a) (.string b)).run P w = .ok (a == b) w := by
  simp [Op.equalIn, Sem.run_bind, hu, Result.andThen_ok]
theorem rowOne {p : Prop} [Decidable p] {a b : Value} (hn : f.name ≠ "_") (ha : (part f.type xs.toArray f.offset).run P w = .ok a w) (hb : (part f.type ys.toArray f.offset).run P w = .ok b w) (he : (Op.equalIn d f.type a b).run P w = .ok (decide p) w) :
    (Op.eqFields d xs.toArray ys.toArray [f]).run P w = .ok (decide p) w := by
  simp only [Op.eqFields, if_pos hn, Sem.run_bind, ha, hb, he, Result.andThen_ok]
  by_cases h : p <;> simp [h]
theorem rowMore {p q : Prop} [Decidable p] [Decidable q] {a b : Value} (hn : f.name ≠ "_") (ha : (part f.type xs.toArray f.offset).run P w = .ok a w) (hb : (part f.type ys.toArray f.offset).run P w = .ok b w) (he : (Op.equalIn d f.type a b).run P w = .ok (decide p) w)
    (hr : (Op.eqFields d xs.toArray ys.toArray fs).run P w = .ok (decide q) w) : (Op.eqFields d xs.toArray ys.toArray (f :: fs)).run P w = .ok (decide (p ∧ q)) w := by
  rw [Op.eqFields]
  simp only [if_pos hn, Sem.run_bind, ha, hb, he, Result.andThen_ok]
  by_cases h : p
  · simp [h, hr]
  · simp [h]
theorem sameRow {t : TypeId} {fs : Array Field} {r : Bool} (hu : P.underlying t = some (.struct fs)) (hp : P.stoodInHeld t = false) (h : (Op.eqFields d xs.toArray ys.toArray fs.toList).run P w = .ok r w) : (Op.equalIn (d + 1) t (.agg xs.toArray) (.agg ys.toArray)).run P w = .ok r w := by
  have hf : P.fieldsOf t = fs := by simp [Program.fieldsOf, hu]
  rw [run_equalIn_struct (P := P) w d t xs.toArray ys.toArray (by rw [hf]; exact hu) hp, hf]
  exact h
end
theorem places23 : Places Try.prog 23 [(0, 1), (1, 1), (2, 1), (3, 1), (4, 1), (5, 1)] := ⟨_, Try.runUnderlying23, by intro w; simp [Try.sizeOf3, Try.sizeOf4, Result.andThen_ok, Sem.run_bind]⟩
theorem places36 : Places Try.prog 36 [(0, 1), (1, 6)] := ⟨_, Try.runUnderlying36, by intro w; simp [Try.sizeOf3, Try.sizeOf23, Result.andThen_ok, Sem.run_bind]⟩
theorem places42 : Places Try.prog 42 [(0, 1), (1, 1), (2, 1)] := ⟨_, Try.runUnderlying42, by intro w; simp [Try.sizeOf3, Result.andThen_ok, Sem.run_bind]⟩
theorem places59 : Places Try.prog 59 [(0, 1), (1, 1), (2, 1)] := ⟨_, Try.runUnderlying59, by intro w; simp [Try.sizeOf3, Try.sizeOf32, Try.sizeOf57, Result.andThen_ok, Sem.run_bind]⟩
abbrev zc3 : List Value := [.int .i64 0]
abbrev zc36 : List Value := [.int .i64 0, .bool false, .int .i64 0, .int .i64 0, .int .i64 0, .int .i64 0, .int .i64 0]
abbrev zc42 : List Value := [.int .i64 0, .int .i64 0, .int .i64 0]
abbrev zc59 : List Value := [.int .i64 0, .nilFunc, .nilFunc]
abbrev zc75 : List Value := [.int .i64 0, .bool false, .int .i64 0, .int .i64 0, .int .i64 0, .int .i64 0, .int .i64 0]
theorem info3 : Try.prog.info? 3 = some Try.t3 := by kernel_rfl
theorem info36 : Try.prog.info? 36 = some Try.t36 := by kernel_rfl
theorem info42 : Try.prog.info? 42 = some Try.t42 := by kernel_rfl
theorem info75 : Try.prog.info? 75 = some Try.t75 := by kernel_rfl
theorem eqIn23 (d : Nat) (w : World) (x0 y0 : Bool) (x1 y1 : Int) (x2 y2 : Int) (x3 y3 : Int) (x4 y4 : Int) (x5 y5 : Int) : (Op.equalIn (d + 2) 23 (.agg [.bool x0, .int .i64 x1, .int .i64 x2, .int .i64 x3, .int .i64 x4, .int .i64 x5].toArray) (.agg [.bool y0, .int .i64 y1, .int .i64 y2, .int .i64 y3, .int .i64 y4, .int .i64 y5].toArray)).run Try.prog w = .ok (decide (x0 = y0 ∧ x1 = y1 ∧ x2 = y2 ∧ x3 = y3 ∧ x4 = y4 ∧ x5 = y5)) w := by
  refine sameRow Try.underlying23 (by kernel_rfl) ?_
  refine rowMore (by decide) (partOne Try.isAgg4 rfl) (partOne Try.isAgg4 rfl) (sameBool (d := d + 0) Try.runUnderlying4 _ _) ?_
  refine rowMore (by decide) (partOne Try.isAgg3 rfl) (partOne Try.isAgg3 rfl) (sameInt (d := d + 0) Try.runUnderlying3 _ _) ?_
  refine rowMore (by decide) (partOne Try.isAgg3 rfl) (partOne Try.isAgg3 rfl) (sameInt (d := d + 0) Try.runUnderlying3 _ _) ?_
  refine rowMore (by decide) (partOne Try.isAgg3 rfl) (partOne Try.isAgg3 rfl) (sameInt (d := d + 0) Try.runUnderlying3 _ _) ?_
  refine rowMore (by decide) (partOne Try.isAgg3 rfl) (partOne Try.isAgg3 rfl) (sameInt (d := d + 0) Try.runUnderlying3 _ _) ?_
  exact rowOne (by decide) (partOne Try.isAgg3 rfl) (partOne Try.isAgg3 rfl) (sameInt (d := d + 0) Try.runUnderlying3 _ _)
theorem eqAt23 (x0 y0 : Bool) (x1 y1 : Int) (x2 y2 : Int) (x3 y3 : Int) (x4 y4 : Int) (x5 y5 : Int) : EqAt Try.prog 23 [.bool x0, .int .i64 x1, .int .i64 x2, .int .i64 x3, .int .i64 x4, .int .i64 x5] [.bool y0, .int .i64 y1, .int .i64 y2, .int .i64 y3, .int .i64 y4, .int .i64 y5] (decide (x0 = y0 ∧ x1 = y1 ∧ x2 = y2 ∧ x3 = y3 ∧ x4 = y4 ∧ x5 = y5)) := fun w => eqIn23 9998 w ..
theorem eqIn36 (d : Nat) (w : World) (x0 y0 : Int) (x1 y1 : Bool) (x2 y2 : Int) (x3 y3 : Int) (x4 y4 : Int) (x5 y5 : Int) (x6 y6 : Int) : (Op.equalIn (d + 3) 36 (.agg [.int .i64 x0, .bool x1, .int .i64 x2, .int .i64 x3, .int .i64 x4, .int .i64 x5, .int .i64 x6].toArray) (.agg [.int .i64 y0, .bool y1, .int .i64 y2, .int .i64 y3, .int .i64 y4, .int .i64 y5, .int .i64 y6].toArray)).run Try.prog w = .ok (decide (x0 = y0 ∧ (x1 = y1 ∧ x2 = y2 ∧ x3 = y3 ∧ x4 = y4 ∧ x5 = y5 ∧ x6 = y6))) w := by
  refine sameRow Try.underlying36 (by kernel_rfl) ?_
  refine rowMore (by decide) (partOne Try.isAgg3 rfl) (partOne Try.isAgg3 rfl) (sameInt (d := d + 1) Try.runUnderlying3 _ _) ?_
  exact rowOne (by decide) (partAgg Try.isAgg23 Try.sizeOf23 rfl) (partAgg Try.isAgg23 Try.sizeOf23 rfl) (eqIn23 (d + 0) w ..)
theorem eqAt36 (x0 y0 : Int) (x1 y1 : Bool) (x2 y2 : Int) (x3 y3 : Int) (x4 y4 : Int) (x5 y5 : Int) (x6 y6 : Int) : EqAt Try.prog 36 [.int .i64 x0, .bool x1, .int .i64 x2, .int .i64 x3, .int .i64 x4, .int .i64 x5, .int .i64 x6] [.int .i64 y0, .bool y1, .int .i64 y2, .int .i64 y3, .int .i64 y4, .int .i64 y5, .int .i64 y6] (decide (x0 = y0 ∧ (x1 = y1 ∧ x2 = y2 ∧ x3 = y3 ∧ x4 = y4 ∧ x5 = y5 ∧ x6 = y6))) := fun w => eqIn36 9997 w ..
theorem eqIn42 (d : Nat) (w : World) (x0 y0 : Int) (x1 y1 : Int) (x2 y2 : Int) : (Op.equalIn (d + 2) 42 (.agg [.int .i64 x0, .int .i64 x1, .int .i64 x2].toArray) (.agg [.int .i64 y0, .int .i64 y1, .int .i64 y2].toArray)).run Try.prog w = .ok (decide (x0 = y0 ∧ x1 = y1 ∧ x2 = y2)) w := by
  refine sameRow Try.underlying42 (by kernel_rfl) ?_
  refine rowMore (by decide) (partOne Try.isAgg3 rfl) (partOne Try.isAgg3 rfl) (sameInt (d := d + 0) Try.runUnderlying3 _ _) ?_
  refine rowMore (by decide) (partOne Try.isAgg3 rfl) (partOne Try.isAgg3 rfl) (sameInt (d := d + 0) Try.runUnderlying3 _ _) ?_
  exact rowOne (by decide) (partOne Try.isAgg3 rfl) (partOne Try.isAgg3 rfl) (sameInt (d := d + 0) Try.runUnderlying3 _ _)
theorem eqAt42 (x0 y0 : Int) (x1 y1 : Int) (x2 y2 : Int) : EqAt Try.prog 42 [.int .i64 x0, .int .i64 x1, .int .i64 x2] [.int .i64 y0, .int .i64 y1, .int .i64 y2] (decide (x0 = y0 ∧ x1 = y1 ∧ x2 = y2)) := fun w => eqIn42 9998 w ..
end Go.Proofs.Ytgdpjpmjcpieiaa
