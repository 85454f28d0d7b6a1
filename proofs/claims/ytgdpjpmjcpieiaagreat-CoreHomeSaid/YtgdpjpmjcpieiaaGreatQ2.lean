import Derived.Test.YtgdpjpmjcpieiaaGreatProg
import Derived.Laws.StructEq
import Derived.KernelRfl
import Derived.Test.YtgdpjpmjcpieiaaGreatQ1
/- What the types of this program come to: where fields lie, zero values, ==. By program. No condition. -/
namespace Go.Proofs.YtgdpjpmjcpieiaaGreat
open Go
set_option linter.unusedVariables false
set_option linter.unusedSimpArgs false
theorem mix : Tryz.prog.follows .mixedOrders = true := by kernel_rfl
section
variable {P : Program} {d : Nat} {xs ys : List Value} {f : Field} {fs : List Field} {w : World}
theorem partOne {t : TypeId} {off : Nat} {cs : List Value} {v : Value} (hA : ∀ w, (isAgg t).run P w = .ok false w) (hc : cs[off]? = some v) : (part t cs.toArray off).run P w = .ok v w := by
  simp only [part, Sem.run_bind, hA, Result.andThen_ok, Bool.false_eq_true, if_false, List.getElem?_toArray, hc]; rfl
theorem partAgg {t : TypeId} {off sz : Nat} {cs vs : List Value} (hA : ∀ w, (isAgg t).run P w = .ok true w) (hS : ∀ w, (sizeOf t).run P w = .ok sz w) (hc : takeN off sz cs = some vs) : (part t cs.toArray off).run P w = .ok (.agg vs.toArray) w := by
  have hex : cs.toArray.extract off (off + sz) = vs.toArray := by
    obtain ⟨h1, h2⟩ := takeN_spec hc
    apply Array.ext'
    simp only [List.extract_toArray, List.extract_eq_take_drop]
    rw [Nat.add_sub_cancel_left]
    apply List.ext_getElem?
    intro j
    rw [List.getElem?_take]
    split
    · rename_i hj; rw [List.getElem?_drop]; exact h2 j hj
    · rename_i hj; rw [List.getElem?_eq_none (by omega)]
  simp only [part, Sem.run_bind, hA, Result.andThen_ok, if_true, hS, hex]; rfl
theorem sameInt {t : TypeId} {kd k0 : IntKind} (hu : ∀ w, (underlying t).run P w = .ok (.int k0) w) (a b : Int) : (Op.equalIn (d + 1) t (.int kd a) (.int kd b)).run P w = .ok (decide (a = b)) w := by
  simp only [Op.equalIn, Sem.run_bind, hu, Result.andThen_ok]
  by_cases h : a = b <;> simp [h]
theorem sameBool {t : TypeId} (hu : ∀ w, (underlying t).run P w = .ok .bool w) (a b : Bool) : (Op.equalIn (d + 1) t (.bool a) (.bool b)).run P w = .ok (decide (a = b)) w := by
  simp only [Op.equalIn, Sem.run_bind, hu, Result.andThen_ok]
  by_cases h : a = b <;> simp [h]
theorem sameStr {t : TypeId} (hu : ∀ w, (underlying t).run P w = .ok .string w) (a b : ByteArray) : (Op.equalIn (d + 1) t (.string a) (.string b)).run P w = .ok (a == b) w := by
  simp [Op.equalIn, Sem.run_bind, hu, Result.andThen_ok]
theorem rowOne {p : Prop} [Decidable p] {a b : Value} (hn : f.name ≠ "_") (ha : (part f.type xs.toArray f.offset).run P w = .ok a w) (hb : (part f.type ys.toArray f.offset).run P w = .ok b w) (he : (Op.equalIn d f.type a b).run P w = .ok (decide p) w) :
    (Op.eqFields d xs.toArray ys.toArray [f]).run P w = .ok (decide p) w := by
  simp only [Op.eqFields, if_pos hn, Sem.run_bind, ha, hb, he, Result.andThen_ok]
  by_cases h : p <;> simp [h]
theorem rowMore {p q : Prop} [Decidable p] [Decidable q] {a b : Value} (hn : f.name ≠ "_") (ha : (part f.type xs.toArray f.offset).run P w = .ok a w) (hb : (part f.type ys.toArray f.offset).run P w = .ok b w) (he : (Op.equalIn d f.type a b).run P w = .ok (decide p) w)
    (hr : (Op.eqFields d xs.toArray ys.toArray fs).run P w = .ok (decide q) w) : (Op.eqFields d xs.toArray ys.toArray (f :: fs)).run P w = .ok (decide (p ∧ q)) w := by
  rw [Op.eqFields]
  simp only [if_pos hn, Sem.run_bind, ha, hb, he, Result.andThen_ok]
  by_cases h : p
  · simp [h, hr]
  · simp [h]
theorem sameRow {t : TypeId} {fs : Array Field} {r : Bool} (hu : P.underlying t = some (.struct fs)) (hp : P.stoodInHeld t = false) (h : (Op.eqFields d xs.toArray ys.toArray fs.toList).run P w = .ok r w) : (Op.equalIn (d + 1) t (.agg xs.toArray) (.agg ys.toArray)).run P w = .ok r w := by
  have hf : P.fieldsOf t = fs := by simp [Program.fieldsOf, hu]
  rw [run_equalIn_struct (P := P) w d t xs.toArray ys.toArray (by rw [hf]; exact hu) hp, hf]
  exact h
end
theorem places23 : Places Tryz.prog 23 [(0, 1), (1, 1), (2, 1), (3, 1), (4, 1), (5, 1)] := ⟨_, Tryz.runUnderlying23, by intro w; simp [Tryz.sizeOf3, Tryz.sizeOf4, Result.andThen_ok, Sem.run_bind]⟩
theorem places26 : Places Tryz.prog 26 [(0, 1), (1, 1), (2, 6), (8, 1), (9, 1), (10, 1), (11, 1), (12, 1)] := ⟨_, Tryz.runUnderlying26, by intro w; simp [Tryz.sizeOf3, Tryz.sizeOf4, Tryz.sizeOf23, Tryz.sizeOf24, Result.andThen_ok, Sem.run_bind]⟩
theorem places28 : Places Tryz.prog 28 [(0, 1), (1, 1), (2, 1)] := ⟨_, Tryz.runUnderlying28, by intro w; simp [Tryz.sizeOf3, Result.andThen_ok, Sem.run_bind]⟩
theorem places30 : Places Tryz.prog 30 [(0, 1), (1, 1), (2, 6), (8, 3), (11, 1)] := ⟨_, Tryz.runUnderlying30, by intro w; simp [Tryz.sizeOf3, Tryz.sizeOf23, Tryz.sizeOf28, Result.andThen_ok, Sem.run_bind]⟩
theorem places50 : Places Tryz.prog 50 [(0, 1), (1, 12)] := ⟨_, Tryz.runUnderlying50, by intro w; simp [Tryz.sizeOf3, Tryz.sizeOf30, Result.andThen_ok, Sem.run_bind]⟩
theorem places72 : Places Tryz.prog 72 [(0, 1), (1, 6)] := ⟨_, Tryz.runUnderlying72, by intro w; simp [Tryz.sizeOf3, Tryz.sizeOf23, Result.andThen_ok, Sem.run_bind]⟩
theorem places78 : Places Tryz.prog 78 [(0, 13), (13, 1), (14, 1), (15, 1)] := ⟨_, Tryz.runUnderlying78, by intro w; simp [Tryz.sizeOf3, Tryz.sizeOf26, Tryz.sizeOf34, Tryz.sizeOf35, Result.andThen_ok, Sem.run_bind]⟩
theorem places90 : Places Tryz.prog 90 [(0, 13), (13, 1), (14, 1)] := ⟨_, Tryz.runUnderlying90, by intro w; simp [Tryz.sizeOf26, Tryz.sizeOf34, Tryz.sizeOf35, Result.andThen_ok, Sem.run_bind]⟩
theorem places136 : Places Tryz.prog 136 [(0, 1), (1, 1), (2, 1)] := ⟨_, Tryz.runUnderlying136, by intro w; simp [Tryz.sizeOf3, Tryz.sizeOf40, Tryz.sizeOf134, Result.andThen_ok, Sem.run_bind]⟩
abbrev zc3 : List Value := [.int .i64 0]
abbrev zc28 : List Value := [.int .i64 0, .int .i64 0, .int .i64 0]
abbrev zc50 : List Value := [.int .i64 0, .int .i64 0, .int .i64 0, .bool false, .int .i64 0, .int .i64 0, .int .i64 0, .int .i64 0, .int .i64 0, .int .i64 0, .int .i64 0, .int .i64 0, .int .i64 0]
abbrev zc72 : List Value := [.int .i64 0, .bool false, .int .i64 0, .int .i64 0, .int .i64 0, .int .i64 0, .int .i64 0]
abbrev zc101 : List Value := [.int .i64 0, .bool false, .int .i64 0, .int .i64 0, .int .i64 0, .int .i64 0, .int .i64 0]
abbrev zc136 : List Value := [.int .i64 0, .nilFunc, .nilFunc]
abbrev zc144 : List Value := [.int .u16 0]
theorem info3 : Tryz.prog.info? 3 = some Tryz.t3 := by kernel_rfl
theorem info28 : Tryz.prog.info? 28 = some Tryz.t28 := by kernel_rfl
theorem info50 : Tryz.prog.info? 50 = some Tryz.t50 := by kernel_rfl
theorem info72 : Tryz.prog.info? 72 = some Tryz.t72 := by kernel_rfl
theorem info101 : Tryz.prog.info? 101 = some Tryz.t101 := by kernel_rfl
theorem info144 : Tryz.prog.info? 144 = some Tryz.t144 := by kernel_rfl
theorem eqIn23 (d : Nat) (w : World) (x0 y0 : Bool) (x1 y1 : Int) (x2 y2 : Int) (x3 y3 : Int) (x4 y4 : Int) (x5 y5 : Int) : (Op.equalIn (d + 2) 23 (.agg [.bool x0, .int .i64 x1, .int .i64 x2, .int .i64 x3, .int .i64 x4, .int .i64 x5].toArray) (.agg [.bool y0, .int .i64 y1, .int .i64 y2, .int .i64 y3, .int .i64 y4, .int .i64 y5].toArray)).run Tryz.prog w = .ok (decide (x0 = y0 ∧ x1 = y1 ∧ x2 = y2 ∧ x3 = y3 ∧ x4 = y4 ∧ x5 = y5)) w := by
  refine sameRow Tryz.underlying23 (by kernel_rfl) ?_
  refine rowMore (by decide) (partOne Tryz.isAgg4 rfl) (partOne Tryz.isAgg4 rfl) (sameBool (d := d + 0) Tryz.runUnderlying4 _ _) ?_
  refine rowMore (by decide) (partOne Tryz.isAgg3 rfl) (partOne Tryz.isAgg3 rfl) (sameInt (d := d + 0) Tryz.runUnderlying3 _ _) ?_
  refine rowMore (by decide) (partOne Tryz.isAgg3 rfl) (partOne Tryz.isAgg3 rfl) (sameInt (d := d + 0) Tryz.runUnderlying3 _ _) ?_
  refine rowMore (by decide) (partOne Tryz.isAgg3 rfl) (partOne Tryz.isAgg3 rfl) (sameInt (d := d + 0) Tryz.runUnderlying3 _ _) ?_
  refine rowMore (by decide) (partOne Tryz.isAgg3 rfl) (partOne Tryz.isAgg3 rfl) (sameInt (d := d + 0) Tryz.runUnderlying3 _ _) ?_
  exact rowOne (by decide) (partOne Tryz.isAgg3 rfl) (partOne Tryz.isAgg3 rfl) (sameInt (d := d + 0) Tryz.runUnderlying3 _ _)
theorem eqAt23 (x0 y0 : Bool) (x1 y1 : Int) (x2 y2 : Int) (x3 y3 : Int) (x4 y4 : Int) (x5 y5 : Int) : EqAt Tryz.prog 23 [.bool x0, .int .i64 x1, .int .i64 x2, .int .i64 x3, .int .i64 x4, .int .i64 x5] [.bool y0, .int .i64 y1, .int .i64 y2, .int .i64 y3, .int .i64 y4, .int .i64 y5] (decide (x0 = y0 ∧ x1 = y1 ∧ x2 = y2 ∧ x3 = y3 ∧ x4 = y4 ∧ x5 = y5)) := fun w => eqIn23 9998 w ..
theorem eqIn28 (d : Nat) (w : World) (x0 y0 : Int) (x1 y1 : Int) (x2 y2 : Int) : (Op.equalIn (d + 2) 28 (.agg [.int .i64 x0, .int .i64 x1, .int .i64 x2].toArray) (.agg [.int .i64 y0, .int .i64 y1, .int .i64 y2].toArray)).run Tryz.prog w = .ok (decide (x0 = y0 ∧ x1 = y1 ∧ x2 = y2)) w := by
  refine sameRow Tryz.underlying28 (by kernel_rfl) ?_
  refine rowMore (by decide) (partOne Tryz.isAgg3 rfl) (partOne Tryz.isAgg3 rfl) (sameInt (d := d + 0) Tryz.runUnderlying3 _ _) ?_
  refine rowMore (by decide) (partOne Tryz.isAgg3 rfl) (partOne Tryz.isAgg3 rfl) (sameInt (d := d + 0) Tryz.runUnderlying3 _ _) ?_
  exact rowOne (by decide) (partOne Tryz.isAgg3 rfl) (partOne Tryz.isAgg3 rfl) (sameInt (d := d + 0) Tryz.runUnderlying3 _ _)
theorem eqAt28 (x0 y0 : Int) (x1 y1 : Int) (x2 y2 : Int) : EqAt Tryz.prog 28 [.int .i64 x0, .int .i64 x1, .int .i64 x2] [.int .i64 y0, .int .i64 y1, .int .i64 y2] (decide (x0 = y0 ∧ x1 = y1 ∧ x2 = y2)) := fun w => eqIn28 9998 w ..
theorem eqIn30 (d : Nat) (w : World) (x0 y0 : Int) (x1 y1 : Int) (x2 y2 : Bool) (x3 y3 : Int) (x4 y4 : Int) (x5 y5 : Int) (x6 y6 : Int) (x7 y7 : Int) (x8 y8 : Int) (x9 y9 : Int) (x10 y10 : Int) (x11 y11 : Int) : (Op.equalIn (d + 3) 30 (.agg [.int .i64 x0, .int .i64 x1, .bool x2, .int .i64 x3, .int .i64 x4, .int .i64 x5, .int .i64 x6, .int .i64 x7, .int .i64 x8, .int .i64 x9, .int .i64 x10, .int .i64 x11].toArray) (.agg [.int .i64 y0, .int .i64 y1, .bool y2, .int .i64 y3, .int .i64 y4, .int .i64 y5, .int .i64 y6, .int .i64 y7, .int .i64 y8, .int .i64 y9, .int .i64 y10, .int .i64 y11].toArray)).run Tryz.prog w = .ok (decide (x0 = y0 ∧ x1 = y1 ∧ (x2 = y2 ∧ x3 = y3 ∧ x4 = y4 ∧ x5 = y5 ∧ x6 = y6 ∧ x7 = y7) ∧ (x8 = y8 ∧ x9 = y9 ∧ x10 = y10) ∧ x11 = y11)) w := by
  refine sameRow Tryz.underlying30 (by kernel_rfl) ?_
  refine rowMore (by decide) (partOne Tryz.isAgg3 rfl) (partOne Tryz.isAgg3 rfl) (sameInt (d := d + 1) Tryz.runUnderlying3 _ _) ?_
  refine rowMore (by decide) (partOne Tryz.isAgg3 rfl) (partOne Tryz.isAgg3 rfl) (sameInt (d := d + 1) Tryz.runUnderlying3 _ _) ?_
  refine rowMore (by decide) (partAgg Tryz.isAgg23 Tryz.sizeOf23 rfl) (partAgg Tryz.isAgg23 Tryz.sizeOf23 rfl) (eqIn23 (d + 0) w ..) ?_
  refine rowMore (by decide) (partAgg Tryz.isAgg28 Tryz.sizeOf28 rfl) (partAgg Tryz.isAgg28 Tryz.sizeOf28 rfl) (eqIn28 (d + 0) w ..) ?_
  exact rowOne (by decide) (partOne Tryz.isAgg3 rfl) (partOne Tryz.isAgg3 rfl) (sameInt (d := d + 1) Tryz.runUnderlying3 _ _)
theorem eqAt30 (x0 y0 : Int) (x1 y1 : Int) (x2 y2 : Bool) (x3 y3 : Int) (x4 y4 : Int) (x5 y5 : Int) (x6 y6 : Int) (x7 y7 : Int) (x8 y8 : Int) (x9 y9 : Int) (x10 y10 : Int) (x11 y11 : Int) : EqAt Tryz.prog 30 [.int .i64 x0, .int .i64 x1, .bool x2, .int .i64 x3, .int .i64 x4, .int .i64 x5, .int .i64 x6, .int .i64 x7, .int .i64 x8, .int .i64 x9, .int .i64 x10, .int .i64 x11] [.int .i64 y0, .int .i64 y1, .bool y2, .int .i64 y3, .int .i64 y4, .int .i64 y5, .int .i64 y6, .int .i64 y7, .int .i64 y8, .int .i64 y9, .int .i64 y10, .int .i64 y11] (decide (x0 = y0 ∧ x1 = y1 ∧ (x2 = y2 ∧ x3 = y3 ∧ x4 = y4 ∧ x5 = y5 ∧ x6 = y6 ∧ x7 = y7) ∧ (x8 = y8 ∧ x9 = y9 ∧ x10 = y10) ∧ x11 = y11)) := fun w => eqIn30 9997 w ..
theorem eqIn50 (d : Nat) (w : World) (x0 y0 : Int) (x1 y1 : Int) (x2 y2 : Int) (x3 y3 : Bool) (x4 y4 : Int) (x5 y5 : Int) (x6 y6 : Int) (x7 y7 : Int) (x8 y8 : Int) (x9 y9 : Int) (x10 y10 : Int) (x11 y11 : Int) (x12 y12 : Int) : (Op.equalIn (d + 4) 50 (.agg [.int .i64 x0, .int .i64 x1, .int .i64 x2, .bool x3, .int .i64 x4, .int .i64 x5, .int .i64 x6, .int .i64 x7, .int .i64 x8, .int .i64 x9, .int .i64 x10, .int .i64 x11, .int .i64 x12].toArray) (.agg [.int .i64 y0, .int .i64 y1, .int .i64 y2, .bool y3, .int .i64 y4, .int .i64 y5, .int .i64 y6, .int .i64 y7, .int .i64 y8, .int .i64 y9, .int .i64 y10, .int .i64 y11, .int .i64 y12].toArray)).run Tryz.prog w = .ok (decide (x0 = y0 ∧ (x1 = y1 ∧ x2 = y2 ∧ (x3 = y3 ∧ x4 = y4 ∧ x5 = y5 ∧ x6 = y6 ∧ x7 = y7 ∧ x8 = y8) ∧ (x9 = y9 ∧ x10 = y10 ∧ x11 = y11) ∧ x12 = y12))) w := by
  refine sameRow Tryz.underlying50 (by kernel_rfl) ?_
  refine rowMore (by decide) (partOne Tryz.isAgg3 rfl) (partOne Tryz.isAgg3 rfl) (sameInt (d := d + 2) Tryz.runUnderlying3 _ _) ?_
  exact rowOne (by decide) (partAgg Tryz.isAgg30 Tryz.sizeOf30 rfl) (partAgg Tryz.isAgg30 Tryz.sizeOf30 rfl) (eqIn30 (d + 0) w ..)
theorem eqAt50 (x0 y0 : Int) (x1 y1 : Int) (x2 y2 : Int) (x3 y3 : Bool) (x4 y4 : Int) (x5 y5 : Int) (x6 y6 : Int) (x7 y7 : Int) (x8 y8 : Int) (x9 y9 : Int) (x10 y10 : Int) (x11 y11 : Int) (x12 y12 : Int) : EqAt Tryz.prog 50 [.int .i64 x0, .int .i64 x1, .int .i64 x2, .bool x3, .int .i64 x4, .int .i64 x5, .int .i64 x6, .int .i64 x7, .int .i64 x8, .int .i64 x9, .int .i64 x10, .int .i64 x11, .int .i64 x12] [.int .i64 y0, .int .i64 y1, .int .i64 y2, .bool y3, .int .i64 y4, .int .i64 y5, .int .i64 y6, .int .i64 y7, .int .i64 y8, .int .i64 y9, .int .i64 y10, .int .i64 y11, .int .i64 y12] (decide (x0 = y0 ∧ (x1 = y1 ∧ x2 = y2 ∧ (x3 = y3 ∧ x4 = y4 ∧ x5 = y5 ∧ x6 = y6 ∧ x7 = y7 ∧ x8 = y8) ∧ (x9 = y9 ∧ x10 = y10 ∧ x11 = y11) ∧ x12 = y12))) := fun w => eqIn50 9996 w ..
theorem eqIn72 (d : Nat) (w : World) (x0 y0 : Int) (x1 y1 : Bool) (x2 y2 : Int) (x3 y3 : Int) (x4 y4 : Int) (x5 y5 : Int) (x6 y6 : Int) : (Op.equalIn (d + 3) 72 (.agg [.int .i64 x0, .bool x1, .int .i64 x2, .int .i64 x3, .int .i64 x4, .int .i64 x5, .int .i64 x6].toArray) (.agg [.int .i64 y0, .bool y1, .int .i64 y2, .int .i64 y3, .int .i64 y4, .int .i64 y5, .int .i64 y6].toArray)).run Tryz.prog w = .ok (decide (x0 = y0 ∧ (x1 = y1 ∧ x2 = y2 ∧ x3 = y3 ∧ x4 = y4 ∧ x5 = y5 ∧ x6 = y6))) w := by
  refine sameRow Tryz.underlying72 (by kernel_rfl) ?_
  refine rowMore (by decide) (partOne Tryz.isAgg3 rfl) (partOne Tryz.isAgg3 rfl) (sameInt (d := d + 1) Tryz.runUnderlying3 _ _) ?_
  exact rowOne (by decide) (partAgg Tryz.isAgg23 Tryz.sizeOf23 rfl) (partAgg Tryz.isAgg23 Tryz.sizeOf23 rfl) (eqIn23 (d + 0) w ..)
theorem eqAt72 (x0 y0 : Int) (x1 y1 : Bool) (x2 y2 : Int) (x3 y3 : Int) (x4 y4 : Int) (x5 y5 : Int) (x6 y6 : Int) : EqAt Tryz.prog 72 [.int .i64 x0, .bool x1, .int .i64 x2, .int .i64 x3, .int .i64 x4, .int .i64 x5, .int .i64 x6] [.int .i64 y0, .bool y1, .int .i64 y2, .int .i64 y3, .int .i64 y4, .int .i64 y5, .int .i64 y6] (decide (x0 = y0 ∧ (x1 = y1 ∧ x2 = y2 ∧ x3 = y3 ∧ x4 = y4 ∧ x5 = y5 ∧ x6 = y6))) := fun w => eqIn72 9997 w ..
end Go.Proofs.YtgdpjpmjcpieiaaGreat

/- The plain things that the program speaks of: heights, levels, objects, batches, acks. No condition. -/
namespace Go.Proofs.YtgdpjpmjcpieiaaGreat
open Go
structure Ht where
  null : Bool
  tau : Int
  oid : Int
  r : Int
  delta : Int
  id : Int
  deriving DecidableEq, Inhabited
structure Lv where
  tau : Int
  oid : Int
  r : Int
  deriving DecidableEq, Inhabited
structure Ob where
  kind : Int
  dest : Int
  h : Ht
  l : Lv
  num : Int
  deriving DecidableEq, Inhabited
structure Ak where
  id : Int
  epoch : Int
  next : Int
  mask : Int
  deriving DecidableEq, Inhabited
abbrev Ht.cells (h : Ht) : List Value := [.bool h.null, .int .i64 h.tau, .int .i64 h.oid, .int .i64 h.r, .int .i64 h.delta, .int .i64 h.id]
abbrev Lv.cells (l : Lv) : List Value := [.int .i64 l.tau, .int .i64 l.oid, .int .i64 l.r]
abbrev Ob.cells (o : Ob) : List Value := [.int .i64 o.kind, .int .i64 o.dest, .bool o.h.null, .int .i64 o.h.tau, .int .i64 o.h.oid, .int .i64 o.h.r, .int .i64 o.h.delta, .int .i64 o.h.id, .int .i64 o.l.tau, .int .i64 o.l.oid, .int .i64 o.l.r, .int .i64 o.num]
abbrev Ak.cells (a : Ak) : List Value := [.int .i64 a.id, .int .i64 a.epoch, .int .i64 a.next, .int .i64 a.mask]
theorem Ob.ext' {a b : Ob} : a = b ↔ a.kind = b.kind ∧ a.dest = b.dest ∧ (a.h.null = b.h.null ∧ a.h.tau = b.h.tau ∧ a.h.oid = b.h.oid ∧ a.h.r = b.h.r ∧ a.h.delta = b.h.delta ∧ a.h.id = b.h.id) ∧ (a.l.tau = b.l.tau ∧ a.l.oid = b.l.oid ∧ a.l.r = b.l.r) ∧ a.num = b.num := by
  obtain ⟨k, d, ⟨n, t, o, r, dl, i⟩, ⟨t', o', r'⟩, m⟩ := a
  obtain ⟨k2, d2, ⟨n2, t2, o2, r2, dl2, i2⟩, ⟨t3, o3, r3⟩, m2⟩ := b
  simp
theorem Ht.ext' {a b : Ht} : a = b ↔ a.null = b.null ∧ a.tau = b.tau ∧ a.oid = b.oid ∧ a.r = b.r ∧ a.delta = b.delta ∧ a.id = b.id := by
  obtain ⟨n, t, o, r, dl, i⟩ := a
  obtain ⟨n2, t2, o2, r2, dl2, i2⟩ := b
  simp
theorem Ht.eta (h : Ht) : (⟨h.null, h.tau, h.oid, h.r, h.delta, h.id⟩ : Ht) = h := rfl
/-- P2: a height that is right -/
def okH (h : Ht) : Bool := decide (0 ≤ h.id ∧ h.id < 64 ∧ if h.null then h.tau = 0 ∧ h.oid = 0 ∧ h.r = 0 ∧ h.delta = 0 else 0 ≤ h.tau ∧ h.tau ≤ 4611686018427387903 ∧ 0 ≤ h.oid ∧ h.oid < 64 ∧ (h.r = 0 ∨ h.r = 1) ∧ -1099511627776 ≤ h.delta ∧ h.delta ≤ 1099511627776)
/-- P4: an object that is right -/
def okO (o : Ob) : Bool := decide (0 ≤ o.dest ∧ o.dest < 64 ∧
  ((o.kind = 1 ∧ o.l = ⟨0, 0, 0⟩ ∧ o.h = ⟨false, 0, 0, 0, 0, 0⟩ ∧ o.num = 0) ∨ (o.kind = 2 ∧ o.l = ⟨0, 0, 0⟩ ∧ o.num = 0 ∧ okH o.h = true) ∨
   (o.kind = 3 ∧ o.h = ⟨false, 0, 0, 0, 0, 0⟩ ∧ o.num = 0 ∧ okH ⟨false, o.l.tau, o.l.oid, o.l.r, 0, 0⟩ = true) ∨
   (o.kind = 4 ∧ o.l = ⟨0, 0, 0⟩ ∧ 0 ≤ o.num ∧ o.num ≤ 65535 ∧ okH o.h = true ∧ o.h.null = false)))
theorem Lv.ext' {a b : Lv} : a = b ↔ a.tau = b.tau ∧ a.oid = b.oid ∧ a.r = b.r := by
  obtain ⟨t, o, r⟩ := a
  obtain ⟨t2, o2, r2⟩ := b
  simp
/-- P2: known, and not Null -/
def toldH (h : Ht) : Bool := okH h && !h.null
structure Vw where
  id : Int
  h : Ht
  deriving DecidableEq, Inhabited
abbrev Vw.cells (v : Vw) : List Value := [.int .i64 v.id, .bool v.h.null, .int .i64 v.h.tau, .int .i64 v.h.oid, .int .i64 v.h.r, .int .i64 v.h.delta, .int .i64 v.h.id]
theorem Vw.ext' {a b : Vw} : a = b ↔ a.id = b.id ∧ (a.h.null = b.h.null ∧ a.h.tau = b.h.tau ∧ a.h.oid = b.h.oid ∧ a.h.r = b.h.r ∧ a.h.delta = b.h.delta ∧ a.h.id = b.h.id) := by
  obtain ⟨i, ⟨n, t, o, r, dl, i'⟩⟩ := a
  obtain ⟨i2, ⟨n2, t2, o2, r2, dl2, i2'⟩⟩ := b
  simp
/-- -1, 0 or 1 -/
def cmpI (a b : Int) : Int := if a < b then -1 else if b < a then 1 else 0
/-- the first that is not 0 -/
def orI : List Int → Int
  | [] => 0
  | x :: r => if x = 0 then orI r else x
def z0H : Ht := ⟨false, 0, 0, 0, 0, 0⟩
def z0V : Vw := ⟨0, z0H⟩
def lvlH (h : Ht) : Lv := if toldH h then ⟨h.tau, h.oid, h.r⟩ else ⟨0, 0, 0⟩
def ordL (a b : Lv) : Int := orI [cmpI a.tau b.tau, cmpI a.oid b.oid, cmpI a.r b.r]
def lessH (a b : Ht) : Bool := toldH a && toldH b && decide (orI [ordL (lvlH a) (lvlH b), cmpI a.delta b.delta, cmpI a.id b.id] < 0)
def errA (b : Bool) : Int := if b then 0 else 1
def atH (l : Lv) (delta id : Int) : Ht := ⟨false, l.tau, l.oid, l.r, delta, id⟩
def nullH (id : Int) : Ht := ⟨true, 0, 0, 0, 0, id⟩
/-- P12: element i of the views is right, next to the one ahead of it -/
def okV (v : Vw) : Bool := decide (0 ≤ v.id ∧ v.id < 64 ∧ v.h.id = v.id ∧ okH v.h = true)
def rAt (xs : List Vw) (i : Nat) : Bool := match xs[i]?, xs[i - 1]? with
  | some v, some u => okV v && (decide (i = 0) || decide (u.id < v.id))
  | _, _ => true
/-- P12: the views are right -/
def okVs (xs : List Vw) : Bool := (List.range xs.length).all (rAt xs)
theorem okVs_iff {xs : List Vw} : okVs xs = true ↔ ∀ i, i < xs.length → rAt xs i = true := by simp [okVs]
def lowStep (b : Option Vw) (v : Vw) : Option Vw := if toldH v.h && (b.isNone || lessH v.h (b.getD z0V).h) then some v else b
/-- the lowest one that is told -/
def lowV (xs : List Vw) : Option Vw := xs.foldl lowStep none
def leastStep (l : Lv) (n : Int) (v : Vw) : Int := if toldH v.h && decide (lvlH v.h = l) && decide (v.h.delta < n) then v.h.delta else n
def leastV (xs : List Vw) (l : Lv) : Int := xs.foldl (leastStep l) 1099511627776
end Go.Proofs.YtgdpjpmjcpieiaaGreat

/- The rules once more, under short names, what can be reckoned left to be reckoned. No condition. -/
namespace Go.Proofs.YtgdpjpmjcpieiaaGreat
open Go
set_option linter.unusedVariables false
section
variable {P : Program} {n : Nat} {Q : Exit → Act → World → Prop} {g : Gl} {k : List It} {e : Env} {D : Dict} {M : MList}
  {all : Array Oper} {rest : List Oper} {dst : Option Nat} {ty : TypeId} {pos : String} {af : Array Edge}
theorem R.sq {x y : Code} (h : Run P n Q g (.code x :: .code y :: k) e D M) : Run P n Q g (.code (.seq x y) :: k) e D M := Run.seq h
theorem R.rg {id : Nat} {l : List Oper} (h : Run P n Q g (.ops l.toArray l :: k) e D M) : Run P n Q g (.code (.region id l.toArray false) :: k) e D M := Run.region h
theorem R.nl (h : Run P n Q g k e D M) : Run P n Q g (.ops all [] :: k) e D M := Run.nilOps h
theorem R.hs {e' : Env} (h : Run P n Q g k e' D M) (hh : e.Has e' := by repeat (first | exact trivial | refine ⟨rfl, ?_⟩)) : Run P n Q g k e D M := Run.has hh h
theorem R.mv {x : Operand} {v : Value} (h : Run P n Q g (.ops all rest :: k) (e.put dst v) D M) (hx : e.ev x = some v := by rfl) (hd : dstOk n dst = true := by rfl) : Run P n Q g (.ops all (⟨dst, .move x, ty, pos, af, none⟩ :: rest) :: k) e D M := Run.move hx hd h
theorem R.as {x : Operand} {v : Value} (h : Run P n Q g (.ops all rest :: k) (e.put dst v) D M) (hx : e.ev x = some v := by rfl) (hd : dstOk n dst = true := by rfl) : Run P n Q g (.ops all (⟨dst, .assign x, ty, pos, af, none⟩ :: rest) :: k) e D M := Run.assign hx hd h
theorem R.pT {c x y : Operand} {b : Bool} {v : Value} (hb : b = true) (h : Run P n Q g (.ops all rest :: k) (e.put dst v) D M) (hc : e.ev c = some (.bool b) := by rfl) (hx : e.ev x = some v := by rfl) (hd : dstOk n dst = true := by rfl) :
    Run P n Q g (.ops all (⟨dst, .pick c x y, ty, pos, af, none⟩ :: rest) :: k) e D M := Run.pickT hc hb hx hd h
theorem R.pF {c x y : Operand} {b : Bool} {v : Value} (hb : b = false) (h : Run P n Q g (.ops all rest :: k) (e.put dst v) D M) (hc : e.ev c = some (.bool b) := by rfl) (hx : e.ev y = some v := by rfl) (hd : dstOk n dst = true := by rfl) :
    Run P n Q g (.ops all (⟨dst, .pick c x y, ty, pos, af, none⟩ :: rest) :: k) e D M := Run.pickF hc hb hx hd h
theorem R.nc {x : Operand} {a : Addr} (h : Run P n Q g (.ops all rest :: k) (e.put dst (.pointer (some a))) D M) (hx : e.ev x = some (.pointer (some a)) := by rfl) (hd : dstOk n dst = true := by rfl) :
    Run P n Q g (.ops all (⟨dst, .nilCheck x, ty, pos, af, none⟩ :: rest) :: k) e D M := Run.nilCheck hx hd h
theorem R.ncf {x : Operand} {f : FuncId} {c d : Array Value} (h : Run P n Q g (.ops all rest :: k) (e.put dst (.func (.func f) c d)) D M) (hx : e.ev x = some (.func (.func f) c d) := by rfl) (hd : dstOk n dst = true := by rfl) :
    Run P n Q g (.ops all (⟨dst, .nilCheck x, ty, pos, af, none⟩ :: rest) :: k) e D M := Run.nilCheckFn hx hd h
theorem R.nt {t : TypeId} {x : Operand} {b : Bool} (h : Run P n Q g (.ops all rest :: k) (e.put dst (.bool !b)) D M) (hx : e.ev x = some (.bool b) := by rfl) (hd : dstOk n dst = true := by rfl) :
    Run P n Q g (.ops all (⟨dst, .unOp .not t x, ty, pos, af, none⟩ :: rest) :: k) e D M := Run.not hx hd h
theorem R.mf {fn : Fn} {f c : List Operand} {vf vc : List Value} (h : Run P n Q g (.ops all rest :: k) (e.put dst (.func fn vf.toArray vc.toArray)) D M) (hf : e.evs f = some vf := by rfl) (hc : e.evs c = some vc := by rfl) (hd : dstOk n dst = true := by rfl) :
    Run P n Q g (.ops all (⟨dst, .makeFunc fn f.toArray c.toArray, ty, pos, af, none⟩ :: rest) :: k) e D M := Run.makeFunc hf hc hd h
theorem R.ex {x : Operand} {i : Nat} {vs : List Value} {v : Value} (h : Run P n Q g (.ops all rest :: k) (e.put dst v) D M) (hx : e.ev x = some (.tuple vs.toArray) := by rfl) (hi : vs[i]? = some v := by rfl) (hd : dstOk n dst = true := by rfl) :
    Run P n Q g (.ops all (⟨dst, .extract x i, ty, pos, af, none⟩ :: rest) :: k) e D M := Run.extract hx hi hd h
theorem R.cm {op : BinOp} {t t' : TypeId} {x y : Operand} {kd : IntKind} {a b : Int} {r : Bool} (h : Run P n Q g (.ops all rest :: k) (e.put dst (.bool r)) D M) (hx : e.ev x = some (.int kd a) := by rfl) (hy : e.ev y = some (.int kd b) := by rfl) (hr : cmpB op a b = some r := by rfl)
    (hd : dstOk n dst = true := by rfl) : Run P n Q g (.ops all (⟨dst, .binOp op t x y t', ty, pos, af, none⟩ :: rest) :: k) e D M := Run.cmp hx hy hr hd h
theorem R.ad {t t' : TypeId} {x y : Operand} {a b : Int} (h : Run P n Q g (.ops all rest :: k) (e.put dst (.int .i64 (a + b))) D M) (hx : e.ev x = some (.int .i64 a) := by rfl) (hy : e.ev y = some (.int .i64 b) := by rfl) (hr : -9223372036854775808 ≤ a + b ∧ a + b ≤ 9223372036854775807 := by first | omega | (dsimp only; omega))
    (hd : dstOk n dst = true := by rfl) : Run P n Q g (.ops all (⟨dst, .binOp .add t x y t', ty, pos, af, none⟩ :: rest) :: k) e D M := Run.add hx hy (wrap_i64 hr.1 hr.2) hd h
theorem R.sb {t t' : TypeId} {x y : Operand} {a b : Int} (h : Run P n Q g (.ops all rest :: k) (e.put dst (.int .i64 (a - b))) D M) (hx : e.ev x = some (.int .i64 a) := by rfl) (hy : e.ev y = some (.int .i64 b) := by rfl) (hr : -9223372036854775808 ≤ a - b ∧ a - b ≤ 9223372036854775807 := by first | omega | (dsimp only; omega))
    (hd : dstOk n dst = true := by rfl) : Run P n Q g (.ops all (⟨dst, .binOp .sub t x y t', ty, pos, af, none⟩ :: rest) :: k) e D M := Run.subt hx hy (wrap_i64 hr.1 hr.2) hd h
theorem R.ml {t t' : TypeId} {x y : Operand} {a b : Int} (h : Run P n Q g (.ops all rest :: k) (e.put dst (.int .i64 (a * b))) D M) (hx : e.ev x = some (.int .i64 a) := by rfl) (hy : e.ev y = some (.int .i64 b) := by rfl) (hr : -9223372036854775808 ≤ a * b ∧ a * b ≤ 9223372036854775807 := by first | omega | (dsimp only; omega))
    (hd : dstOk n dst = true := by rfl) : Run P n Q g (.ops all (⟨dst, .binOp .mul t x y t', ty, pos, af, none⟩ :: rest) :: k) e D M := Run.mul hx hy (wrap_i64 hr.1 hr.2) hd h
/-- of another kind: what it wraps to is told -/
theorem R.adw {t t' : TypeId} {x y : Operand} {kd : IntKind} {a b r : Int} (hr : kd.wrap (a + b) = r) (h : Run P n Q g (.ops all rest :: k) (e.put dst (.int kd r)) D M) (hx : e.ev x = some (.int kd a) := by rfl) (hy : e.ev y = some (.int kd b) := by rfl) (hd : dstOk n dst = true := by rfl) :
    Run P n Q g (.ops all (⟨dst, .binOp .add t x y t', ty, pos, af, none⟩ :: rest) :: k) e D M := Run.add hx hy hr hd h
theorem R.sbw {t t' : TypeId} {x y : Operand} {kd : IntKind} {a b r : Int} (hr : kd.wrap (a - b) = r) (h : Run P n Q g (.ops all rest :: k) (e.put dst (.int kd r)) D M) (hx : e.ev x = some (.int kd a) := by rfl) (hy : e.ev y = some (.int kd b) := by rfl) (hd : dstOk n dst = true := by rfl) :
    Run P n Q g (.ops all (⟨dst, .binOp .sub t x y t', ty, pos, af, none⟩ :: rest) :: k) e D M := Run.subt hx hy hr hd h
theorem R.mlw {t t' : TypeId} {x y : Operand} {kd : IntKind} {a b r : Int} (hr : kd.wrap (a * b) = r) (h : Run P n Q g (.ops all rest :: k) (e.put dst (.int kd r)) D M) (hx : e.ev x = some (.int kd a) := by rfl) (hy : e.ev y = some (.int kd b) := by rfl) (hd : dstOk n dst = true := by rfl) :
    Run P n Q g (.ops all (⟨dst, .binOp .mul t x y t', ty, pos, af, none⟩ :: rest) :: k) e D M := Run.mul hx hy hr hd h
theorem R.sr {t t' : TypeId} {x y : Operand} {kd ky : IntKind} {a b r : Int} (hr : a.fdiv (2 ^ (min b.toNat kd.bits)) = r) (h : Run P n Q g (.ops all rest :: k) (e.put dst (.int kd r)) D M) (hx : e.ev x = some (.int kd a) := by rfl) (hy : e.ev y = some (.int ky b) := by rfl) (h0 : 0 ≤ b := by first | omega | (dsimp only; omega)) (hd : dstOk n dst = true := by rfl) :
    Run P n Q g (.ops all (⟨dst, .binOp .shr t x y t', ty, pos, af, none⟩ :: rest) :: k) e D M := Run.shr hx hy h0 hr hd h
theorem R.sl {t t' : TypeId} {x y : Operand} {kd ky : IntKind} {a b r : Int} (hr : kd.wrap (a * 2 ^ (min b.toNat kd.bits)) = r) (h : Run P n Q g (.ops all rest :: k) (e.put dst (.int kd r)) D M) (hx : e.ev x = some (.int kd a) := by rfl) (hy : e.ev y = some (.int ky b) := by rfl) (h0 : 0 ≤ b := by first | omega | (dsimp only; omega)) (hd : dstOk n dst = true := by rfl) :
    Run P n Q g (.ops all (⟨dst, .binOp .shl t x y t', ty, pos, af, none⟩ :: rest) :: k) e D M := Run.shl hx hy h0 hr hd h
theorem R.an {t t' : TypeId} {x y : Operand} {kd : IntKind} {a b r : Int} (hr : kd.wrap ((BitVec.ofInt kd.bits a &&& BitVec.ofInt kd.bits b).toNat) = r) (h : Run P n Q g (.ops all rest :: k) (e.put dst (.int kd r)) D M) (hx : e.ev x = some (.int kd a) := by rfl) (hy : e.ev y = some (.int kd b) := by rfl) (hd : dstOk n dst = true := by rfl) :
    Run P n Q g (.ops all (⟨dst, .binOp .and t x y t', ty, pos, af, none⟩ :: rest) :: k) e D M := Run.band hx hy hr hd h
theorem R.or {t t' : TypeId} {x y : Operand} {kd : IntKind} {a b r : Int} (hr : kd.wrap ((BitVec.ofInt kd.bits a ||| BitVec.ofInt kd.bits b).toNat) = r) (h : Run P n Q g (.ops all rest :: k) (e.put dst (.int kd r)) D M) (hx : e.ev x = some (.int kd a) := by rfl) (hy : e.ev y = some (.int kd b) := by rfl) (hd : dstOk n dst = true := by rfl) :
    Run P n Q g (.ops all (⟨dst, .binOp .or t x y t', ty, pos, af, none⟩ :: rest) :: k) e D M := Run.bor hx hy hr hd h
theorem R.rm {t t' : TypeId} {x y : Operand} {kd : IntKind} {a b r : Int} (hr : a.tmod b = r) (h : Run P n Q g (.ops all rest :: k) (e.put dst (.int kd r)) D M) (hx : e.ev x = some (.int kd a) := by rfl) (hy : e.ev y = some (.int kd b) := by rfl) (h0 : b ≠ 0 := by first | omega | (dsimp only; omega)) (hd : dstOk n dst = true := by rfl) :
    Run P n Q g (.ops all (⟨dst, .binOp .rem t x y t', ty, pos, af, none⟩ :: rest) :: k) e D M := Run.rem hx hy h0 hr hd h
theorem R.cv {s t : TypeId} {x : Operand} {kd kd' : IntKind} {us : TypeDesc} {a r : Int} (hs : ∀ w, (underlying s).run P w = .ok us w) (ht : ∀ w, (underlying t).run P w = .ok (.int kd) w) (hr : kd.wrap a = r) (h : Run P n Q g (.ops all rest :: k) (e.put dst (.int kd r)) D M)
    (hx : e.ev x = some (.int kd' a) := by rfl) (hd : dstOk n dst = true := by rfl) : Run P n Q g (.ops all (⟨dst, .convert s t x, ty, pos, af, none⟩ :: rest) :: k) e D M := Run.convInt hs ht hx hr hd h
theorem R.alA {t : TypeId} {cs : List Value} (hz : ∀ w, (zeroValue t).run P w = .ok (.agg cs.toArray) w) (h : ∀ b, D b = none → Run P n Q g (.ops all rest :: k) (e.put dst (.pointer (some ⟨b, 0, none⟩))) D ((b, .cells cs.toArray t (0, 0)) :: M)) (hd : dstOk n dst = true := by rfl) :
    Run P n Q g (.ops all (⟨dst, .alloc t, ty, pos, af, none⟩ :: rest) :: k) e D M := Run.allocA hz hd h
theorem R.al1 {t : TypeId} {z : Value} (hz : ∀ w, (zeroValue t).run P w = .ok z w) (h : ∀ b, D b = none → Run P n Q g (.ops all rest :: k) (e.put dst (.pointer (some ⟨b, 0, none⟩))) D ((b, .cells [z].toArray t (0, 0)) :: M)) (h1 : z.cells = #[z] := by rfl) (hd : dstOk n dst = true := by rfl) :
    Run P n Q g (.ops all (⟨dst, .alloc t, ty, pos, af, none⟩ :: rest) :: k) e D M := Run.alloc1 hz h1 hd h
theorem R.bxA {t : TypeId} {x : Operand} {cs : List Value} (h : ∀ b, D b = none → Run P n Q g (.ops all rest :: k) (e.put dst (.pointer (some ⟨b, 0, none⟩))) D ((b, .cells cs.toArray t (0, 0)) :: M)) (hx : e.ev x = some (.agg cs.toArray) := by rfl) (hd : dstOk n dst = true := by rfl) :
    Run P n Q g (.ops all (⟨dst, .box t x, ty, pos, af, none⟩ :: rest) :: k) e D M := Run.boxA hx hd h
theorem R.bx1 {t : TypeId} {x : Operand} {v : Value} (h : ∀ b, D b = none → Run P n Q g (.ops all rest :: k) (e.put dst (.pointer (some ⟨b, 0, none⟩))) D ((b, .cells [v].toArray t (0, 0)) :: M)) (hx : e.ev x = some v := by rfl) (h1 : v.cells = #[v] := by rfl) (hd : dstOk n dst = true := by rfl) :
    Run P n Q g (.ops all (⟨dst, .box t x, ty, pos, af, none⟩ :: rest) :: k) e D M := Run.box1 hx h1 hd h
theorem R.mm {t : TypeId} (h : ∀ b, D b = none → Run P n Q g (.ops all rest :: k) (e.put dst (.map (some b))) D ((b, .map #[] 0) :: M)) (hd : dstOk n dst = true := by rfl) : Run P n Q g (.ops all (⟨dst, .makeMap t none, ty, pos, af, none⟩ :: rest) :: k) e D M := Run.makeMap hd h
theorem R.bd {t : TypeId} {ps : List (Nat × Operand)} {zs cs : List Value} {pl : List (Nat × Nat)} {l : List (Nat × List Value)} (hz : ∀ w, (zeroValue t).run P w = .ok (.agg zs.toArray) w) (hp : Places P t pl)
    (h : Run P n Q g (.ops all rest :: k) (e.put dst (.agg cs.toArray)) D M) (hl : partCells e ps = some l := by rfl) (hf : fillN pl zs l = some cs := by rfl) (hd : dstOk n dst = true := by rfl) : Run P n Q g (.ops all (⟨dst, .build t ps.toArray, ty, pos, af, none⟩ :: rest) :: k) e D M := Run.build hz hp hl hf hd h
theorem R.bs {t el : TypeId} {ps : List (Nat × Operand)} (zc : List Value) {cs : List Value} {len : Nat} {l : List (Nat × List Value)} (hu : ∀ w, (underlying t).run P w = .ok (.slice el) w) (hsz : ∀ w, (sizeOf el).run P w = .ok zc.length w)
    {z : Value} (hz : ∀ w, (zeroValue el).run P w = .ok z w) (h : ∀ b, D b = none → Run P n Q g (.ops all rest :: k) (e.put dst (.slice (some ⟨b, 0, none⟩) len len)) D ((b, .cells cs.toArray el (0, 0)) :: M))
    (hzs : z.cells = zc.toArray := by rfl) (h24 : len * zc.length ≤ 2 ^ 24 := by decide) (hne : len * zc.length ≠ 0 := by decide) (hl : partCells e ps = some l := by rfl) (hf : fillN ((List.range len).map fun i => (i * zc.length, zc.length)) (reps len zc) l = some cs := by rfl) (hd : dstOk n dst = true := by rfl) (hlt : l.all (fun p => Nat.blt p.1 len) = true := by rfl) :
    Run P n Q g (.ops all (⟨dst, .buildSlice t len ps.toArray, ty, pos, af, none⟩ :: rest) :: k) e D M :=
  Run.buildSlice hu hsz hz hzs h24 hne hl hf hd (fun p hp => by have := List.all_eq_true.1 hlt p hp; simpa [Nat.blt_eq] using this) h
theorem R.f1 {t ft : TypeId} {x : Operand} {i : Nat} {fs : Array Field} {f : Field} {cs : List Value} {v : Value} (hu : ∀ w, (underlying t).run P w = .ok (.struct fs) w) (hA : ∀ w, (isAgg ft).run P w = .ok false w) (h : Run P n Q g (.ops all rest :: k) (e.put dst v) D M)
    (hf : fs[i]? = some f := by rfl) (hft : f.type = ft := by rfl) (hx : e.ev x = some (.agg cs.toArray) := by rfl) (hc : cs[f.offset]? = some v := by rfl) (hd : dstOk n dst = true := by rfl) : Run P n Q g (.ops all (⟨dst, .field t x i, ty, pos, af, none⟩ :: rest) :: k) e D M := Run.field1 hu hf (hft ▸ hA) hx hc hd h
theorem R.fA {t ft : TypeId} {x : Operand} {i sz : Nat} {fs : Array Field} {f : Field} {cs vs : List Value} (hu : ∀ w, (underlying t).run P w = .ok (.struct fs) w) (hA : ∀ w, (isAgg ft).run P w = .ok true w) (hS : ∀ w, (sizeOf ft).run P w = .ok sz w) (h : Run P n Q g (.ops all rest :: k) (e.put dst (.agg vs.toArray)) D M)
    (hf : fs[i]? = some f := by rfl) (hft : f.type = ft := by rfl) (hx : e.ev x = some (.agg cs.toArray) := by rfl) (hc : takeN f.offset sz cs = some vs := by rfl) (hd : dstOk n dst = true := by rfl) : Run P n Q g (.ops all (⟨dst, .field t x i, ty, pos, af, none⟩ :: rest) :: k) e D M := Run.fieldA hu hf (hft ▸ hA) (hft ▸ hS) hx hc hd h
theorem R.fa {t ft : TypeId} {x : Operand} {i b off sz : Nat} {fs : Array Field} {f : Field} (hu : ∀ w, (underlying t).run P w = .ok (.struct fs) w) (hS : ∀ w, (sizeOf ft).run P w = .ok sz w) (h : Run P n Q g (.ops all rest :: k) (e.put dst (.pointer (some ⟨b, off + f.offset, none⟩))) D M)
    (hf : fs[i]? = some f := by rfl) (hft : f.type = ft := by rfl) (h0 : sz ≠ 0 := by decide) (hx : e.ev x = some (.pointer (some ⟨b, off, none⟩)) := by rfl) (hd : dstOk n dst = true := by rfl) : Run P n Q g (.ops all (⟨dst, .fieldAddr t x i, ty, pos, af, none⟩ :: rest) :: k) e D M := Run.fieldAddr hu hf (hft ▸ hS) h0 hx hd h
theorem R.ld {t : TypeId} {x : Operand} {b off : Nat} {v : Value} (hA : ∀ w, (isAgg t).run P w = .ok false w) (h : Run P n Q g (.ops all rest :: k) (e.put dst v) D M) (hx : e.ev x = some (.pointer (some ⟨b, off, none⟩)) := by rfl)
    (hc : Cs D M b off [v] := by first | exact Cs.mkM (n := 1) (.head _) rfl | exact Cs.mkM (n := 1) (.tail _ (.head _)) rfl | exact Cs.mkM (n := 1) (.tail _ (.tail _ (.head _))) rfl | exact Cs.mkM (n := 1) (.tail _ (.tail _ (.tail _ (.head _)))) rfl | exact Cs.mkM (n := 1) (.tail _ (.tail _ (.tail _ (.tail _ (.head _))))) rfl | exact Cs.mkM (n := 1) (.tail _ (.tail _ (.tail _ (.tail _ (.tail _ (.head _)))))) rfl | (apply Cs.mkM (n := 1); (first | exact List.Mem.head _ | (apply List.Mem.tail; repeat (first | exact List.Mem.head _ | apply List.Mem.tail))); rfl))
    (hd : dstOk n dst = true := by rfl) : Run P n Q g (.ops all (⟨dst, .load t x, ty, pos, af, none⟩ :: rest) :: k) e D M := Run.load1 hA hx hc hd h
structure CsN (D : Dict) (M : MList) (b off sz : Nat) (vs : List Value) : Prop where
  cs : Cs D M b off vs
  len : vs.length = sz
theorem CsN.mkM {b off sz : Nat} {vs l : List Value} {T : TypeId} {fr : Nat × Nat} (h : (b, Obj.cells l.toArray T fr) ∈ M) (ht : takeN off sz l = some vs) : CsN D M b off sz vs := ⟨Cs.mkM h ht, (takeN_spec ht).1⟩
theorem R.lA {t : TypeId} {x : Operand} {b off : Nat} {vs : List Value} (sz : Nat) (hA : ∀ w, (isAgg t).run P w = .ok true w) (hS : ∀ w, (sizeOf t).run P w = .ok sz w) (h : Run P n Q g (.ops all rest :: k) (e.put dst (.agg vs.toArray)) D M) (hx : e.ev x = some (.pointer (some ⟨b, off, none⟩)) := by rfl)
    (hc : CsN D M b off sz vs := by first | exact CsN.mkM (.head _) rfl | exact CsN.mkM (.tail _ (.head _)) rfl | exact CsN.mkM (.tail _ (.tail _ (.head _))) rfl | exact CsN.mkM (.tail _ (.tail _ (.tail _ (.head _)))) rfl | exact CsN.mkM (.tail _ (.tail _ (.tail _ (.tail _ (.head _))))) rfl | (apply CsN.mkM; (first | exact List.Mem.head _ | (apply List.Mem.tail; repeat (first | exact List.Mem.head _ | apply List.Mem.tail))); rfl))
    (hd : dstOk n dst = true := by rfl) : Run P n Q g (.ops all (⟨dst, .load t x, ty, pos, af, none⟩ :: rest) :: k) e D M := Run.loadA hA (hc.len ▸ hS) hx hc.cs hd h
theorem R.st {t : TypeId} {x y : Operand} {b off sz : Nat} {v : Value} {l l' : List Value} {T : TypeId} {M' : MList} (hS : ∀ w, (sizeOf t).run P w = .ok sz w) (h : Run P n Q g (.ops all rest :: k) (e.put dst undef) D M') (hx : e.ev x = some (.pointer (some ⟨b, off, none⟩)) := by rfl) (hy : e.ev y = some v := by rfl) (hsz : v.cells.size = sz := by rfl)
    (hm : MSet M b (.cells l.toArray T (0, 0)) (.cells l'.toArray T (0, 0)) M' := by first | exact .here .. | exact .there _ (.here ..) | exact .there _ (.there _ (.here ..)) | exact .there _ (.there _ (.there _ (.here ..))) | exact .there _ (.there _ (.there _ (.there _ (.here ..)))) | exact .there _ (.there _ (.there _ (.there _ (.there _ (.here ..))))) | (repeat (first | exact MSet.here .. | apply MSet.there)))
    (hl : layN off l v.cells.toList = some l' := by rfl) (h1 : v.cells.toList.all (·.oneCell') = true := by rfl) (hd : dstOk n dst = true := by rfl) : Run P n Q g (.ops all (⟨dst, .store t x y, ty, pos, af, none⟩ :: rest) :: k) e D M :=
  Run.storeL (hsz ▸ hS) hx hy (fun u hu => List.all_eq_true.1 h1 u hu) hl hm hd h
theorem R.ia {t el : TypeId} {x i : Operand} {b off l c sz : Nat} {kd : IntKind} {j : Int} (hu : ∀ w, (underlying t).run P w = .ok (.slice el) w) (hS : ∀ w, (sizeOf el).run P w = .ok sz w) (h : Run P n Q g (.ops all rest :: k) (e.put dst (.pointer (some ⟨b, off + j.toNat * sz, none⟩))) D M)
    (hx : e.ev x = some (.slice (some ⟨b, off, none⟩) l c) := by rfl) (hi : e.ev i = some (.int kd j) := by rfl) (h0 : 0 ≤ j ∧ j < l := by first | omega | (dsimp only; omega)) (hd : dstOk n dst = true := by rfl) : Run P n Q g (.ops all (⟨dst, .indexAddr t x i, ty, pos, af, none⟩ :: rest) :: k) e D M := Run.indexAddr hu hS hx hi h0.1 h0.2 hd h
theorem R.ln {t : TypeId} {x : Operand} {A : Option Addr} {l c : Nat} {el : TypeId} (hu : ∀ w, (underlying t).run P w = .ok (.slice el) w) (h : Run P n Q g (.ops all rest :: k) (e.put dst (.int .i64 l)) D M) (hx : e.ev x = some (.slice A l c) := by rfl) (hd : dstOk n dst = true := by rfl) :
    Run P n Q g (.ops all (⟨dst, .call { callee := .builtin .len, args := #[x], argTypes := #[t] }, ty, pos, af, none⟩ :: rest) :: k) e D M := Run.len hu hx hd h
theorem R.ep {t t' el : TypeId} {x y : Operand} {a : Option Addr} (hu : ∀ w, (underlying t).run P w = .ok (.pointer el) w) (h : Run P n Q g (.ops all rest :: k) (e.put dst (.bool a.isNone)) D M) (hx : e.ev x = some (.pointer a) := by rfl) (hy : e.ev y = some (.pointer none) := by rfl) (hd : dstOk n dst = true := by rfl) :
    Run P n Q g (.ops all (⟨dst, .binOp .eql t x y t', ty, pos, af, none⟩ :: rest) :: k) e D M := Run.eqPtrNil hu hx hy hd h
theorem R.np {t t' el : TypeId} {x y : Operand} {a : Option Addr} (hu : ∀ w, (underlying t).run P w = .ok (.pointer el) w) (h : Run P n Q g (.ops all rest :: k) (e.put dst (.bool (!a.isNone))) D M) (hx : e.ev x = some (.pointer a) := by rfl) (hy : e.ev y = some (.pointer none) := by rfl) (hd : dstOk n dst = true := by rfl) :
    Run P n Q g (.ops all (⟨dst, .binOp .neq t x y t', ty, pos, af, none⟩ :: rest) :: k) e D M := Run.nePtrNil hu hx hy hd h
theorem R.es {t t' el : TypeId} {x y : Operand} {a : Option Addr} {l c : Nat} (hu : ∀ w, (underlying t).run P w = .ok (.slice el) w) (h : Run P n Q g (.ops all rest :: k) (e.put dst (.bool a.isNone)) D M) (hx : e.ev x = some (.slice a l c) := by rfl) (hy : e.ev y = some (.slice none 0 0) := by rfl) (hd : dstOk n dst = true := by rfl) :
    Run P n Q g (.ops all (⟨dst, .binOp .eql t x y t', ty, pos, af, none⟩ :: rest) :: k) e D M := Run.eqSlNil hu hx hy hd h
theorem R.eb {t t' : TypeId} {x y : Operand} {a b : Bool} (hu : ∀ w, (underlying t).run P w = .ok .bool w) (h : Run P n Q g (.ops all rest :: k) (e.put dst (.bool (a == b))) D M) (hx : e.ev x = some (.bool a) := by rfl) (hy : e.ev y = some (.bool b) := by rfl) (hd : dstOk n dst = true := by rfl) :
    Run P n Q g (.ops all (⟨dst, .binOp .eql t x y t', ty, pos, af, none⟩ :: rest) :: k) e D M := Run.eqBool hu hx hy hd h
theorem R.nb {t t' : TypeId} {x y : Operand} {a b : Bool} (hu : ∀ w, (underlying t).run P w = .ok .bool w) (h : Run P n Q g (.ops all rest :: k) (e.put dst (.bool (!(a == b)))) D M) (hx : e.ev x = some (.bool a) := by rfl) (hy : e.ev y = some (.bool b) := by rfl) (hd : dstOk n dst = true := by rfl) :
    Run P n Q g (.ops all (⟨dst, .binOp .neq t x y t', ty, pos, af, none⟩ :: rest) :: k) e D M := Run.neBool hu hx hy hd h
theorem R.ea {t t' : TypeId} {x y : Operand} {xs ys : List Value} {r : Bool} (hg : P.eqGuardType P.depth t = false) (hr : EqAt P t xs ys r) (h : Run P n Q g (.ops all rest :: k) (e.put dst (.bool r)) D M) (hx : e.ev x = some (.agg xs.toArray) := by rfl) (hy : e.ev y = some (.agg ys.toArray) := by rfl) (hd : dstOk n dst = true := by rfl) :
    Run P n Q g (.ops all (⟨dst, .binOp .eql t x y t', ty, pos, af, none⟩ :: rest) :: k) e D M := Run.eqAgg hg hx hy hr hd h
theorem R.na {t t' : TypeId} {x y : Operand} {xs ys : List Value} {r : Bool} (hg : P.eqGuardType P.depth t = false) (hr : EqAt P t xs ys r) (h : Run P n Q g (.ops all rest :: k) (e.put dst (.bool !r)) D M) (hx : e.ev x = some (.agg xs.toArray) := by rfl) (hy : e.ev y = some (.agg ys.toArray) := by rfl) (hd : dstOk n dst = true := by rfl) :
    Run P n Q g (.ops all (⟨dst, .binOp .neq t x y t', ty, pos, af, none⟩ :: rest) :: k) e D M := Run.neAgg hg hx hy hr hd h
theorem R.gd {op : Op} {j d : Nat} {want b : Bool} (hy : b = want → Run P n Q g (.ops all (⟨dst, op, ty, pos, af, none⟩ :: rest) :: k) e D M) (hn : b = !want → Run P n Q g (.ops all rest :: k) (e.put dst undef) D M)
    (hj : gdst all j = some d := by rfl) (hb : e.get d = some (.bool b) := by rfl) (hd : dstOk n dst = true := by rfl) : Run P n Q g (.ops all (⟨dst, op, ty, pos, af, some (j, want)⟩ :: rest) :: k) e D M := Run.guard hj hb hd hy hn
theorem R.gY {op : Op} {j d : Nat} {want b : Bool} (hbw : b = want) (h : Run P n Q g (.ops all (⟨dst, op, ty, pos, af, none⟩ :: rest) :: k) e D M) (hj : gdst all j = some d := by rfl) (hb : e.get d = some (.bool b) := by rfl) :
    Run P n Q g (.ops all (⟨dst, op, ty, pos, af, some (j, want)⟩ :: rest) :: k) e D M := Run.guardY hj hb hbw h
theorem R.gF {op : Op} {j d : Nat} {want b : Bool} (hbw : b = !want) (h : Run P n Q g (.ops all rest :: k) (e.put dst undef) D M) (hj : gdst all j = some d := by rfl) (hb : e.get d = some (.bool b) := by rfl) (hd : dstOk n dst = true := by rfl) :
    Run P n Q g (.ops all (⟨dst, op, ty, pos, af, some (j, want)⟩ :: rest) :: k) e D M := Run.guardF hj hb hbw hd h
theorem R.gU {op : Op} {j d : Nat} {want : Bool} (h : Run P n Q g (.ops all rest :: k) (e.put dst undef) D M) (hj : gdst all j = some d := by rfl) (hb : e.get d = some undef := by rfl) (hd : dstOk n dst = true := by rfl) :
    Run P n Q g (.ops all (⟨dst, op, ty, pos, af, some (j, want)⟩ :: rest) :: k) e D M := Run.guardN hj hb (by intro hq; cases hq) hd h
theorem R.cd {c : Operand} {x y : Code} {b : Bool} (ht : b = true → Run P n Q g (.code x :: k) e D M) (hf : b = false → Run P n Q g (.code y :: k) e D M) (hc : e.ev c = some (.bool b) := by rfl) : Run P n Q g (.code (.cond c x y) :: k) e D M := Run.cond hc ht hf
theorem R.cT {c : Operand} {x y : Code} {b : Bool} (hb : b = true) (ht : Run P n Q g (.code x :: k) e D M) (hc : e.ev c = some (.bool b) := by rfl) : Run P n Q g (.code (.cond c x y) :: k) e D M := Run.cond hc (fun _ => ht) (fun h => by rw [hb] at h; cases h)
theorem R.cF {c : Operand} {x y : Code} {b : Bool} (hb : b = false) (hf : Run P n Q g (.code y :: k) e D M) (hc : e.ev c = some (.bool b) := by rfl) : Run P n Q g (.code (.cond c x y) :: k) e D M := Run.cond hc (fun h => by rw [hb] at h; cases h) (fun _ => hf)
theorem R.sp (t : Nat) {b : Bool} (ht : b = true → Run P n Q g k e D M) (hf : b = false → Run P n Q g k e D M) (hb : e.get t = some (.bool b) := by rfl) : Run P n Q g k e D M := by
  cases b
  · exact hf rfl
  · exact ht rfl
theorem R.ca {args : List Operand} {tys : Array TypeId} {f : FuncId} {vs : List Value} {K : Value → Dict → MList → Prop} (hf : ∀ args w, (callFunc f args).run P w = .ok (.enter f args) w) (hc : Spec P g f vs D M K) (h : ∀ v D' M', K v D' M' → Run P n Q g (.ops all rest :: k) (e.put dst v) D' M')
    (ha : e.evs args = some vs := by rfl) (hd : dstOk n dst = true := by rfl) : Run P n Q g (.ops all (⟨dst, .call { callee := .value (.func f), args := args.toArray, argTypes := tys }, ty, pos, af, none⟩ :: rest) :: k) e D M := Run.call hf ha hd hc h
/-- a call that tells a value, the world kept -/
def Gives (P : Program) (g : Gl) (f : FuncId) (vs : List Value) (D : Dict) (M : MList) (v : Value) : Prop := Spec P g f vs D M (fun v' D' M' => v' = v ∧ D' = D ∧ M' = M)
theorem R.cg {args : List Operand} {tys : Array TypeId} {f : FuncId} {vs : List Value} {v : Value} (hf : ∀ args w, (callFunc f args).run P w = .ok (.enter f args) w) (hc : Gives P g f vs D M v) (h : Run P n Q g (.ops all rest :: k) (e.put dst v) D M)
    (ha : e.evs args = some vs := by rfl) (hd : dstOk n dst = true := by rfl) : Run P n Q g (.ops all (⟨dst, .call { callee := .value (.func f), args := args.toArray, argTypes := tys }, ty, pos, af, none⟩ :: rest) :: k) e D M :=
  Run.call hf ha hd hc (fun _ _ _ ⟨h1, h2, h3⟩ => by subst h1; subst h2; subst h3; exact h)
theorem Gives.enter {f : FuncId} {fn : Func} {c : Code} {vs : List Value} {v : Value} (hf : P.funcs[f]? = some fn) (hb : fn.body = some c) (hn : fn.ntmps = n)
    (h : Run P n (bodyPost P fn (fun ex w' => ∃ v' D' M', ex = .returned v' ∧ St g w' D' M' ∧ (v' = v ∧ D' = D ∧ M' = M))) g [.code c] (argEnv 0 vs) D M) (hl : Nat.ble vs.length n = true := by rfl) : Gives P g f vs D M v := Spec.enter hf hb hn hl h
/-- what a function hands back: each result out of its slot or its variable -/
inductive RVs (P : Program) (e : Env) (D : Dict) (M : MList) : List ResultVar → List Value → Prop
  | nil : RVs P e D M [] []
  | tmp {t : Nat} {v : Value} {r : List ResultVar} {vs : List Value} (h : e.get t = some v) (hr : RVs P e D M r vs) : RVs P e D M (.tmp t :: r) (v :: vs)
  | agg {t T b off sz : Nat} {us : List Value} {r : List ResultVar} {vs : List Value} (hA : ∀ w, (isAgg T).run P w = .ok true w) (hS : ∀ w, (sizeOf T).run P w = .ok sz w) (h : e.get t = some (.pointer (some ⟨b, off, none⟩))) (hc : CsN D M b off sz us) (hr : RVs P e D M r vs) : RVs P e D M (.cell t T :: r) (.agg us.toArray :: vs)
  | var {t T b off : Nat} {v : Value} {r : List ResultVar} {vs : List Value} (hA : ∀ w, (isAgg T).run P w = .ok false w) (h : e.get t = some (.pointer (some ⟨b, off, none⟩))) (hc : Cs D M b off [v]) (hr : RVs P e D M r vs) : RVs P e D M (.cell t T :: r) (v :: vs)
theorem RV.t {t : Nat} {v : Value} {r : List ResultVar} {vs : List Value} (hr : RVs P e D M r vs) (h : e.get t = some v := by rfl) : RVs P e D M (.tmp t :: r) (v :: vs) := .tmp h hr
theorem RV.a {t T b off sz : Nat} {us : List Value} {r : List ResultVar} {vs : List Value} (hA : ∀ w, (isAgg T).run P w = .ok true w) (hS : ∀ w, (sizeOf T).run P w = .ok sz w) (hr : RVs P e D M r vs) (h : e.get t = some (.pointer (some ⟨b, off, none⟩)) := by rfl)
    (hc : CsN D M b off sz us := by first | exact CsN.mkM (.head _) rfl | exact CsN.mkM (.tail _ (.head _)) rfl | exact CsN.mkM (.tail _ (.tail _ (.head _))) rfl | exact CsN.mkM (.tail _ (.tail _ (.tail _ (.head _)))) rfl | exact CsN.mkM (.tail _ (.tail _ (.tail _ (.tail _ (.head _))))) rfl | (apply CsN.mkM; (first | exact List.Mem.head _ | (apply List.Mem.tail; repeat (first | exact List.Mem.head _ | apply List.Mem.tail))); rfl)) : RVs P e D M (.cell t T :: r) (.agg us.toArray :: vs) := .agg hA hS h hc hr
theorem RV.v {t T b off : Nat} {v : Value} {r : List ResultVar} {vs : List Value} (hA : ∀ w, (isAgg T).run P w = .ok false w) (hr : RVs P e D M r vs) (h : e.get t = some (.pointer (some ⟨b, off, none⟩)) := by rfl)
    (hc : Cs D M b off [v] := by first | exact Cs.mkM (n := 1) (.head _) rfl | exact Cs.mkM (n := 1) (.tail _ (.head _)) rfl | exact Cs.mkM (n := 1) (.tail _ (.tail _ (.head _))) rfl | exact Cs.mkM (n := 1) (.tail _ (.tail _ (.tail _ (.head _)))) rfl | (apply Cs.mkM (n := 1); (first | exact List.Mem.head _ | (apply List.Mem.tail; repeat (first | exact List.Mem.head _ | apply List.Mem.tail))); rfl)) : RVs P e D M (.cell t T :: r) (v :: vs) := .var hA h hc hr
def oneV : List Value → Value
  | [v] => v
  | vs => .tuple vs.toArray
def oneO : List Value → Option Value
  | [v] => some v
  | vs => some (.tuple vs.toArray)
theorem oneO_eq {vs : List Value} {u : Value} (h : oneO vs = some u) : oneV vs = u := by
  match vs, h with
  | [], h => exact Option.some.inj h
  | [v], h => exact Option.some.inj h
  | _ :: _ :: _, h => exact Option.some.inj h
theorem RVs.run {fn : Func} {vs : List Value} (h : RVs P e D M fn.results.toList vs) {a : Act} {w : World} (he : EnvOk n e a) (hs : St g w D M) : (results fn a.tmps).run P w = .ok (oneV vs) w := by
  have key : ∀ {rs : List ResultVar} {vs : List Value}, RVs P e D M rs vs → (rs.mapM fun
      | ResultVar.tmp t => pure (a.tmps.getD t undef)
      | ResultVar.cell c t => do loadVar t (← asAddr (a.tmps.getD c undef))).run P w = .ok vs w := by
    intro rs vs h
    induction h with
    | nil => rfl
    | tmp h _ ih => simp only [List.mapM_cons, Sem.run_bind, Sem.run_pure, Result.andThen_ok, ih, get_tmps he h]
    | @agg t T b off sz us r vs hA hS h hc _ ih =>
      have h0 := run_loadCells_list (P := P) w _ _ (hc.cs.cell hs)
      rw [hc.len] at h0
      have e1 : Sem.run P (asAddr (Value.pointer (some ⟨b, off, none⟩))) w = .ok ⟨b, off, none⟩ w := rfl
      have e2 : Sem.run P (loadVar T ⟨b, off, none⟩) w = .ok (.agg us.toArray) w := by simp only [loadVar, Sem.run_bind, hA, Result.andThen_ok, if_true, hS, h0, Sem.run_pure]
      simp only [List.mapM_cons, Sem.run_bind, Sem.run_pure, Result.andThen_ok, ih, get_tmps he h, e1, e2]
    | @var t T b off v r vs hA h hc _ ih =>
      have h0 := hc.cell hs 0 _ rfl
      rw [add_plain, Nat.add_zero] at h0
      have e1 : Sem.run P (asAddr (Value.pointer (some ⟨b, off, none⟩))) w = .ok ⟨b, off, none⟩ w := rfl
      have e2 : Sem.run P (loadVar T ⟨b, off, none⟩) w = .ok v w := by
        simp only [loadVar, Sem.run_bind, hA, Result.andThen_ok, Bool.false_eq_true, if_false, load, Sem.run, h0]
      simp only [List.mapM_cons, Sem.run_bind, Sem.run_pure, Result.andThen_ok, ih, get_tmps he h, e1, e2]
  have h2 := key h
  unfold results
  rw [Array.mapM_eq_mapM_toList]
  simp only [map_eq_pure_bind, Sem.run_bind, Sem.run_pure]
  refine (congrArg (fun q : Result (List Value) => (q.andThen fun a w' => Result.ok a.toArray w').andThen fun (a : Array Value) w' => Result.ok (if h : a.size = 1 then a[0] else Value.tuple a) w') h2).trans ?_
  match vs with
  | [] => rfl
  | [v] => rfl
  | _ :: _ :: _ => rfl
/-- the end of a function that tells a value; j locals are left behind -/
theorem R.rt {fn : Func} {v u : Value} {vs : List Value} {M0 : MList} (hr : RVs P e D M fn.results.toList vs) (j : Nat) (hv : u = v) (hu : oneO vs = some u := by rfl) (hM : M.drop j = M0 := by rfl) :
    Run P n (bodyPost P fn (fun ex w' => ∃ v' D' M', ex = .returned v' ∧ St g w' D' M' ∧ (v' = v ∧ D' = D ∧ M' = M0))) g (.code .ret :: k) e D M :=
  fun a w he hd hs => wp_ret (itp_ret (k := k) (Q := bodyPost P fn _) ⟨hd, _, hr.run he hs, ⟨_, D, M0, rfl, hM ▸ hs.drop j, (oneO_eq hu).trans hv, rfl, rfl⟩⟩)
/-- the same where more is told -/
theorem R.rk {fn : Func} {K : Value → Dict → MList → Prop} {vs : List Value} {u : Value} (hr : RVs P e D M fn.results.toList vs) (j : Nat) (hK : K u D (M.drop j)) (hu : oneO vs = some u := by rfl) :
    Run P n (bodyPost P fn (fun ex w' => ∃ v' D' M', ex = .returned v' ∧ St g w' D' M' ∧ K v' D' M')) g (.code .ret :: k) e D M :=
  fun a w he hd hs => wp_ret (itp_ret (k := k) (Q := bodyPost P fn _) ⟨hd, _, hr.run he hs, ⟨_, D, _, rfl, hs.drop j, (oneO_eq hu).symm ▸ hK⟩⟩)
/-- no result, no return: the end of the text -/
theorem R.fn {fn : Func} {K : Value → Dict → MList → Prop} {vs : List Value} {u : Value} (hr : RVs P e D M fn.results.toList vs) (j : Nat) (hK : K u D (M.drop j)) (hu : oneO vs = some u := by rfl) :
    Run P n (bodyPost P fn (fun ex w' => ∃ v' D' M', ex = .returned v' ∧ St g w' D' M' ∧ K v' D' M')) g [] e D M :=
  fun a w he hd hs => ⟨hd, _, hr.run he hs, ⟨_, D, _, rfl, hs.drop j, (oneO_eq hu).symm ▸ hK⟩⟩
end
end Go.Proofs.YtgdpjpmjcpieiaaGreat

/- Heights and objects: what the checks of the document's answer and of the program say. No condition. -/
namespace Go.Proofs.YtgdpjpmjcpieiaaGreat
open Go
set_option linter.unusedVariables false
set_option linter.unusedSimpArgs false
set_option maxRecDepth 100000
set_option maxHeartbeats 0
theorem refRight_spec {g : Gl} {D : Dict} {M : MList} (h : Ht) : Gives Tryz.prog g 47 [.agg (Ht.cells h).toArray] D M (.bool (okH h)) := by
  refine Gives.enter Tryz.func47 rfl Tryz.ntmps47 ?_; refine R.sq ?_; refine R.rg ?_; refine R.bxA (fun zb1 hzb1 => ?_); refine R.as ?_; refine R.nl ?_; refine R.hs (e' := [(1, _)]) ?_; refine R.sq ?_; refine R.sq ?_; refine R.rg ?_; refine R.fa Tryz.runUnderlying23 Tryz.sizeOf3 ?_; refine R.ld Tryz.isAgg3 ?_; refine R.cm ?_; refine R.mv ?_; refine R.gd (fun zg2 => ?_) (fun zg2 => ?_)
  ·refine R.fa Tryz.runUnderlying23 Tryz.sizeOf3 ?_; refine R.gY (zg2) ?_; refine R.ld Tryz.isAgg3 ?_; refine R.gY (zg2) ?_; refine R.cm ?_; refine R.pF (zg2) ?_; refine R.nl ?_; refine R.hs (e' := [(1, _), (10, _)]) ?_; refine R.cd (fun zc3 => ?_) (fun zc3 => ?_)
   ·refine R.sq ?_; refine R.rg ?_; refine R.as ?_; refine R.nl ?_; refine R.hs (e' := [(2, _)]) ?_; refine R.rt (RV.t .nil) 1 ?_
    unfold okH; cases hnl : h.null <;> simp only [hnl, if_true, if_false, Bool.false_eq_true] at * <;> (refine congrArg Value.bool ?_; rw [Bool.eq_iff_iff]; simp only [Bool.not_true, Bool.not_false, decide_eq_true_eq, decide_eq_false_iff_not, Bool.false_eq_true, Bool.true_eq_false, true_and, and_true, eq_self, iff_true, iff_false, true_iff, false_iff, not_and, Int.not_lt, Int.not_le] at *) <;> omega
   ·refine Run.skip ?_; refine R.sq ?_; refine R.sq ?_; refine R.rg ?_; refine R.fa Tryz.runUnderlying23 Tryz.sizeOf4 ?_; refine R.ld Tryz.isAgg4 ?_; refine R.nl ?_; refine R.hs (e' := [(1, _), (12, _)]) ?_; refine R.cd (fun zc4 => ?_) (fun zc4 => ?_)
    ·refine R.sq ?_; refine R.rg ?_; refine R.lA 6 Tryz.isAgg23 Tryz.sizeOf23 ?_; refine R.fa Tryz.runUnderlying23 Tryz.sizeOf3 ?_; refine R.ld Tryz.isAgg3 ?_; refine R.bd Tryz.zeroValue23 places23 ?_; refine R.ea Tryz.eqGuardType23 (eqAt23 _ _ _ _ _ _ _ _ _ _ _ _) ?_; refine R.as ?_; refine R.nl ?_; refine R.hs (e' := [(2, _)]) ?_; refine R.rt (RV.t .nil) 1 ?_
     unfold okH; cases hnl : h.null <;> simp only [hnl, if_true, if_false, Bool.false_eq_true] at * <;> (refine congrArg Value.bool ?_; rw [Bool.eq_iff_iff]; simp only [Bool.not_true, Bool.not_false, decide_eq_true_eq, decide_eq_false_iff_not, Bool.false_eq_true, Bool.true_eq_false, true_and, and_true, eq_self, iff_true, iff_false, true_iff, false_iff, not_and, Int.not_lt, Int.not_le] at *) <;> omega
    ·refine Run.skip ?_; refine R.sq ?_; refine R.rg ?_; refine R.fa Tryz.runUnderlying23 Tryz.sizeOf3 ?_; refine R.ld Tryz.isAgg3 ?_; refine R.cm ?_; refine R.mv ?_; refine R.gd (fun zg5 => ?_) (fun zg5 => ?_)
     ·refine R.fa Tryz.runUnderlying23 Tryz.sizeOf3 ?_; refine R.gY (zg5) ?_; refine R.ld Tryz.isAgg3 ?_; refine R.gY (zg5) ?_; refine R.cm ?_; refine R.pT (zg5) ?_; refine R.mv ?_; refine R.gd (fun zg6 => ?_) (fun zg6 => ?_)
      ·refine R.fa Tryz.runUnderlying23 Tryz.sizeOf3 ?_; refine R.gY (zg6) ?_; refine R.ld Tryz.isAgg3 ?_; refine R.gY (zg6) ?_; refine R.cm ?_; refine R.pT (zg6) ?_; refine R.mv ?_; refine R.gd (fun zg7 => ?_) (fun zg7 => ?_)
       ·refine R.fa Tryz.runUnderlying23 Tryz.sizeOf3 ?_; refine R.gY (zg7) ?_; refine R.ld Tryz.isAgg3 ?_; refine R.gY (zg7) ?_; refine R.cm ?_; refine R.pT (zg7) ?_; refine R.mv ?_; refine R.gd (fun zg8 => ?_) (fun zg8 => ?_)
        ·refine R.fa Tryz.runUnderlying23 Tryz.sizeOf3 ?_; refine R.gY (zg8) ?_; refine R.ld Tryz.isAgg3 ?_; refine R.gY (zg8) ?_; refine R.cm ?_; refine R.gY (zg8) ?_; refine R.mv ?_; refine R.gd (fun zg9 => ?_) (fun zg9 => ?_)
         ·refine R.fa Tryz.runUnderlying23 Tryz.sizeOf3 ?_; refine R.gY (zg9) ?_; refine R.ld Tryz.isAgg3 ?_; refine R.gY (zg9) ?_; refine R.cm ?_; refine R.gY (zg8) ?_; refine R.pF (zg9) ?_; refine R.pT (zg8) ?_; refine R.mv ?_; refine R.gd (fun zg10 => ?_) (fun zg10 => ?_)
          ·refine R.fa Tryz.runUnderlying23 Tryz.sizeOf3 ?_; refine R.gY (zg10) ?_; refine R.ld Tryz.isAgg3 ?_; refine R.gY (zg10) ?_; refine R.cm ?_; refine R.pT (zg10) ?_; refine R.mv ?_; refine R.gd (fun zg11 => ?_) (fun zg11 => ?_)
           ·refine R.fa Tryz.runUnderlying23 Tryz.sizeOf3 ?_; refine R.gY (zg11) ?_; refine R.ld Tryz.isAgg3 ?_; refine R.gY (zg11) ?_; refine R.cm ?_; refine R.pT (zg11) ?_; refine R.as ?_; refine R.nl ?_; refine R.hs (e' := [(2, _)]) ?_; refine R.rt (RV.t .nil) 1 ?_
            unfold okH; cases hnl : h.null <;> simp only [hnl, if_true, if_false, Bool.false_eq_true] at * <;> (refine congrArg Value.bool ?_; rw [Bool.eq_iff_iff]; simp only [Bool.not_true, Bool.not_false, decide_eq_true_eq, decide_eq_false_iff_not, Bool.false_eq_true, Bool.true_eq_false, true_and, and_true, eq_self, iff_true, iff_false, true_iff, false_iff, not_and, Int.not_lt, Int.not_le] at *) <;> omega
           ·refine R.gF (zg11) ?_; refine R.gF (zg11) ?_; refine R.pF (zg11) ?_; refine R.as ?_; refine R.nl ?_; refine R.hs (e' := [(2, _)]) ?_; refine R.rt (RV.t .nil) 1 ?_
            unfold okH; cases hnl : h.null <;> simp only [hnl, if_true, if_false, Bool.false_eq_true] at * <;> (refine congrArg Value.bool ?_; rw [Bool.eq_iff_iff]; simp only [Bool.not_true, Bool.not_false, decide_eq_true_eq, decide_eq_false_iff_not, Bool.false_eq_true, Bool.true_eq_false, true_and, and_true, eq_self, iff_true, iff_false, true_iff, false_iff, not_and, Int.not_lt, Int.not_le] at *) <;> omega
          ·refine R.gF (zg10) ?_; refine R.gF (zg10) ?_; refine R.pF (zg10) ?_; refine R.mv ?_; refine R.gF (rfl) ?_; refine R.gF (rfl) ?_; refine R.gF (rfl) ?_; refine R.pF (rfl) ?_; refine R.as ?_; refine R.nl ?_; refine R.hs (e' := [(2, _)]) ?_; refine R.rt (RV.t .nil) 1 ?_
           unfold okH; cases hnl : h.null <;> simp only [hnl, if_true, if_false, Bool.false_eq_true] at * <;> (refine congrArg Value.bool ?_; rw [Bool.eq_iff_iff]; simp only [Bool.not_true, Bool.not_false, decide_eq_true_eq, decide_eq_false_iff_not, Bool.false_eq_true, Bool.true_eq_false, true_and, and_true, eq_self, iff_true, iff_false, true_iff, false_iff, not_and, Int.not_lt, Int.not_le] at *) <;> omega
         ·refine R.gF (zg9) ?_; refine R.gF (zg9) ?_; refine R.gY (zg8) ?_; refine R.pT (zg9) ?_; refine R.pT (zg8) ?_; refine R.mv ?_; refine R.gY (rfl) ?_; refine R.fa Tryz.runUnderlying23 Tryz.sizeOf3 ?_; refine R.gY (rfl) ?_; refine R.ld Tryz.isAgg3 ?_; refine R.gY (rfl) ?_; refine R.cm ?_; refine R.pT (rfl) ?_; refine R.mv ?_; refine R.gd (fun zg12 => ?_) (fun zg12 => ?_)
          ·refine R.fa Tryz.runUnderlying23 Tryz.sizeOf3 ?_; refine R.gY (zg12) ?_; refine R.ld Tryz.isAgg3 ?_; refine R.gY (zg12) ?_; refine R.cm ?_; refine R.pT (zg12) ?_; refine R.as ?_; refine R.nl ?_; refine R.hs (e' := [(2, _)]) ?_; refine R.rt (RV.t .nil) 1 ?_
           unfold okH; cases hnl : h.null <;> simp only [hnl, if_true, if_false, Bool.false_eq_true] at * <;> (refine congrArg Value.bool ?_; rw [Bool.eq_iff_iff]; simp only [Bool.not_true, Bool.not_false, decide_eq_true_eq, decide_eq_false_iff_not, Bool.false_eq_true, Bool.true_eq_false, true_and, and_true, eq_self, iff_true, iff_false, true_iff, false_iff, not_and, Int.not_lt, Int.not_le] at *) <;> omega
          ·refine R.gF (zg12) ?_; refine R.gF (zg12) ?_; refine R.pF (zg12) ?_; refine R.as ?_; refine R.nl ?_; refine R.hs (e' := [(2, _)]) ?_; refine R.rt (RV.t .nil) 1 ?_
           unfold okH; cases hnl : h.null <;> simp only [hnl, if_true, if_false, Bool.false_eq_true] at * <;> (refine congrArg Value.bool ?_; rw [Bool.eq_iff_iff]; simp only [Bool.not_true, Bool.not_false, decide_eq_true_eq, decide_eq_false_iff_not, Bool.false_eq_true, Bool.true_eq_false, true_and, and_true, eq_self, iff_true, iff_false, true_iff, false_iff, not_and, Int.not_lt, Int.not_le] at *) <;> omega
        ·refine R.gF (zg8) ?_; refine R.gF (zg8) ?_; refine R.gF (zg8) ?_; refine R.gU ?_; refine R.gU ?_; refine R.gU ?_; refine R.gF (zg8) ?_; refine R.pF (zg8) ?_; refine R.mv ?_; refine R.gF (rfl) ?_; refine R.gF (rfl) ?_; refine R.gF (rfl) ?_; refine R.pF (rfl) ?_; refine R.mv ?_; refine R.gF (rfl) ?_; refine R.gF (rfl) ?_; refine R.gF (rfl) ?_; refine R.pF (rfl) ?_; refine R.as ?_; refine R.nl ?_; refine R.hs (e' := [(2, _)]) ?_; refine R.rt (RV.t .nil) 1 ?_
         unfold okH; cases hnl : h.null <;> simp only [hnl, if_true, if_false, Bool.false_eq_true] at * <;> (refine congrArg Value.bool ?_; rw [Bool.eq_iff_iff]; simp only [Bool.not_true, Bool.not_false, decide_eq_true_eq, decide_eq_false_iff_not, Bool.false_eq_true, Bool.true_eq_false, true_and, and_true, eq_self, iff_true, iff_false, true_iff, false_iff, not_and, Int.not_lt, Int.not_le] at *) <;> omega
       ·refine R.gF (zg7) ?_; refine R.gF (zg7) ?_; refine R.pF (zg7) ?_; refine R.mv ?_; refine R.gF (rfl) ?_; refine R.gF (rfl) ?_; refine R.gF (rfl) ?_; refine R.gF (rfl) ?_; refine R.gU ?_; refine R.gU ?_; refine R.gU ?_; refine R.gF (rfl) ?_; refine R.pF (rfl) ?_; refine R.mv ?_; refine R.gF (rfl) ?_; refine R.gF (rfl) ?_; refine R.gF (rfl) ?_; refine R.pF (rfl) ?_; refine R.mv ?_; refine R.gF (rfl) ?_; refine R.gF (rfl) ?_; refine R.gF (rfl) ?_; refine R.pF (rfl) ?_; refine R.as ?_; refine R.nl ?_; refine R.hs (e' := [(2, _)]) ?_; refine R.rt (RV.t .nil) 1 ?_
        unfold okH; cases hnl : h.null <;> simp only [hnl, if_true, if_false, Bool.false_eq_true] at * <;> (refine congrArg Value.bool ?_; rw [Bool.eq_iff_iff]; simp only [Bool.not_true, Bool.not_false, decide_eq_true_eq, decide_eq_false_iff_not, Bool.false_eq_true, Bool.true_eq_false, true_and, and_true, eq_self, iff_true, iff_false, true_iff, false_iff, not_and, Int.not_lt, Int.not_le] at *) <;> omega
      ·refine R.gF (zg6) ?_; refine R.gF (zg6) ?_; refine R.pF (zg6) ?_; refine R.mv ?_; refine R.gF (rfl) ?_; refine R.gF (rfl) ?_; refine R.gF (rfl) ?_; refine R.pF (rfl) ?_; refine R.mv ?_; refine R.gF (rfl) ?_; refine R.gF (rfl) ?_; refine R.gF (rfl) ?_; refine R.gF (rfl) ?_; refine R.gU ?_; refine R.gU ?_; refine R.gU ?_; refine R.gF (rfl) ?_; refine R.pF (rfl) ?_; refine R.mv ?_; refine R.gF (rfl) ?_; refine R.gF (rfl) ?_; refine R.gF (rfl) ?_; refine R.pF (rfl) ?_; refine R.mv ?_; refine R.gF (rfl) ?_; refine R.gF (rfl) ?_; refine R.gF (rfl) ?_; refine R.pF (rfl) ?_; refine R.as ?_; refine R.nl ?_; refine R.hs (e' := [(2, _)]) ?_; refine R.rt (RV.t .nil) 1 ?_
       unfold okH; cases hnl : h.null <;> simp only [hnl, if_true, if_false, Bool.false_eq_true] at * <;> (refine congrArg Value.bool ?_; rw [Bool.eq_iff_iff]; simp only [Bool.not_true, Bool.not_false, decide_eq_true_eq, decide_eq_false_iff_not, Bool.false_eq_true, Bool.true_eq_false, true_and, and_true, eq_self, iff_true, iff_false, true_iff, false_iff, not_and, Int.not_lt, Int.not_le] at *) <;> omega
     ·refine R.gF (zg5) ?_; refine R.gF (zg5) ?_; refine R.pF (zg5) ?_; refine R.mv ?_; refine R.gF (rfl) ?_; refine R.gF (rfl) ?_; refine R.gF (rfl) ?_; refine R.pF (rfl) ?_; refine R.mv ?_; refine R.gF (rfl) ?_; refine R.gF (rfl) ?_; refine R.gF (rfl) ?_; refine R.pF (rfl) ?_; refine R.mv ?_; refine R.gF (rfl) ?_; refine R.gF (rfl) ?_; refine R.gF (rfl) ?_; refine R.gF (rfl) ?_; refine R.gU ?_; refine R.gU ?_; refine R.gU ?_; refine R.gF (rfl) ?_; refine R.pF (rfl) ?_; refine R.mv ?_; refine R.gF (rfl) ?_; refine R.gF (rfl) ?_; refine R.gF (rfl) ?_; refine R.pF (rfl) ?_; refine R.mv ?_; refine R.gF (rfl) ?_; refine R.gF (rfl) ?_; refine R.gF (rfl) ?_; refine R.pF (rfl) ?_; refine R.as ?_; refine R.nl ?_; refine R.hs (e' := [(2, _)]) ?_; refine R.rt (RV.t .nil) 1 ?_
      unfold okH; cases hnl : h.null <;> simp only [hnl, if_true, if_false, Bool.false_eq_true] at * <;> (refine congrArg Value.bool ?_; rw [Bool.eq_iff_iff]; simp only [Bool.not_true, Bool.not_false, decide_eq_true_eq, decide_eq_false_iff_not, Bool.false_eq_true, Bool.true_eq_false, true_and, and_true, eq_self, iff_true, iff_false, true_iff, false_iff, not_and, Int.not_lt, Int.not_le] at *) <;> omega
  ·refine R.gF (zg2) ?_; refine R.gF (zg2) ?_; refine R.pT (zg2) ?_; refine R.nl ?_; refine R.hs (e' := [(1, _), (10, _)]) ?_; refine R.cT (rfl) ?_; refine R.sq ?_; refine R.rg ?_; refine R.as ?_; refine R.nl ?_; refine R.hs (e' := [(2, _)]) ?_; refine R.rt (RV.t .nil) 1 ?_
   unfold okH; cases hnl : h.null <;> simp only [hnl, if_true, if_false, Bool.false_eq_true] at * <;> (refine congrArg Value.bool ?_; rw [Bool.eq_iff_iff]; simp only [Bool.not_true, Bool.not_false, decide_eq_true_eq, decide_eq_false_iff_not, Bool.false_eq_true, Bool.true_eq_false, true_and, and_true, eq_self, iff_true, iff_false, true_iff, false_iff, not_and, Int.not_lt, Int.not_le] at *) <;> omega
theorem refTold_spec {g : Gl} {D : Dict} {M : MList} (h : Ht) : Gives Tryz.prog g 111 [.agg (Ht.cells h).toArray] D M (.bool (toldH h)) := by
  refine Gives.enter Tryz.func111 rfl Tryz.ntmps111 ?_; refine R.sq ?_; refine R.rg ?_; refine R.bxA (fun zb1 hzb1 => ?_); refine R.as ?_; refine R.nl ?_; refine R.hs (e' := [(1, _)]) ?_; refine R.sq ?_; refine R.rg ?_; refine R.lA 6 Tryz.isAgg23 Tryz.sizeOf23 ?_; refine R.cg Tryz.call47 (refRight_spec _) ?_; refine R.mv ?_; refine R.gd (fun zg2 => ?_) (fun zg2 => ?_)
  ·refine R.fa Tryz.runUnderlying23 Tryz.sizeOf4 ?_; refine R.gY (zg2) ?_; refine R.ld Tryz.isAgg4 ?_; refine R.gY (zg2) ?_; refine R.nt ?_; refine R.pT (zg2) ?_; refine R.as ?_; refine R.nl ?_; refine R.hs (e' := [(2, _)]) ?_; refine R.rt (RV.t .nil) 1 ?_
   simp_all [toldH]
  ·refine R.gF (zg2) ?_; refine R.gF (zg2) ?_; refine R.pF (zg2) ?_; refine R.as ?_; refine R.nl ?_; refine R.hs (e' := [(2, _)]) ?_; refine R.rt (RV.t .nil) 1 ?_
   simp_all [toldH]
end Go.Proofs.YtgdpjpmjcpieiaaGreat

/- Heights and objects: what the program's own checks say. No condition. -/
namespace Go.Proofs.YtgdpjpmjcpieiaaGreat
open Go
set_option linter.unusedVariables false
set_option linter.unusedSimpArgs false
set_option maxRecDepth 100000
set_option maxHeartbeats 0
theorem hNull_spec {g : Gl} {D : Dict} {M : MList} (id : Int) : Gives Tryz.prog g 25 [.int .i64 id] D M (.agg (Ht.cells ⟨true, 0, 0, 0, 0, id⟩).toArray) := by
  refine Gives.enter Tryz.func25 rfl Tryz.ntmps25 ?_; refine R.sq ?_; refine R.rg ?_; refine R.alA Tryz.zeroValue23 (fun zb1 hzb1 => ?_); refine R.nl ?_; refine R.hs (e' := [(0, _), (2, _)]) ?_; refine R.sq ?_; refine R.rg ?_; refine R.mv ?_; refine R.bd Tryz.zeroValue23 places23 ?_; refine R.st Tryz.sizeOf23 ?_; refine R.nl ?_; refine R.hs (e' := [(2, _)]) ?_; exact R.rt (RV.a Tryz.isAgg23 Tryz.sizeOf23 .nil) 1 rfl
theorem hCheck_spec {g : Gl} {D : Dict} {M : MList} (h : Ht) : Gives Tryz.prog g 44 [.agg (Ht.cells h).toArray] D M (.int .i64 (errA (okH h))) := by
  refine Gives.enter Tryz.func44 rfl Tryz.ntmps44 ?_; refine R.sq ?_; refine R.rg ?_; refine R.bxA (fun zb1 hzb1 => ?_); refine R.as ?_; refine R.nl ?_; refine R.hs (e' := [(1, _)]) ?_; refine R.sq ?_; refine R.rg ?_; refine R.fa Tryz.runUnderlying23 Tryz.sizeOf3 ?_; refine R.ld Tryz.isAgg3 ?_; refine R.cm ?_; refine R.mv ?_; refine R.gd (fun zg2 => ?_) (fun zg2 => ?_)
  ·refine R.fa Tryz.runUnderlying23 Tryz.sizeOf3 ?_; refine R.gY (zg2) ?_; refine R.ld Tryz.isAgg3 ?_; refine R.gY (zg2) ?_; refine R.cm ?_; refine R.pT (zg2) ?_; refine R.as ?_; refine R.nl ?_; refine R.hs (e' := [(1, _), (3, _)]) ?_; refine R.sq ?_; refine R.sq ?_; refine R.rg ?_; refine R.fa Tryz.runUnderlying23 Tryz.sizeOf4 ?_; refine R.ld Tryz.isAgg4 ?_; refine R.nl ?_; refine R.hs (e' := [(1, _), (3, _), (13, _)]) ?_; refine R.cd (fun zc3 => ?_) (fun zc3 => ?_)
   ·refine R.sp 3 (fun zg4 => ?_) (fun zg4 => ?_)
    ·refine Run.drawC Grow.eq 6 [(1, _), (3, _)] mix (by kernel_rfl) (by repeat (first | exact trivial | refine ⟨rfl, ?_⟩)) ?_; apply TC.val []; exact rfl; kernel_rfl
     ·rintro _ rfl ; refine R.mv ?_; refine R.nl ?_; exact Run.loc rfl rfl rfl
     apply TC.val [0]; exact rfl; kernel_rfl
     ·rintro _ rfl _ rfl; refine R.mv ?_; refine R.nl ?_; exact Run.loc rfl rfl rfl
     apply TC.val [0]; exact rfl; kernel_rfl
     ·rintro _ rfl _ rfl; refine R.gY (zg4) ?_; refine R.lA 6 Tryz.isAgg23 Tryz.sizeOf23 ?_; refine R.nl ?_; exact Run.loc rfl rfl rfl
     apply TC.val [1]; exact rfl; kernel_rfl
     ·rintro _ rfl _ rfl; refine R.gY (zg4) ?_; refine R.fa Tryz.runUnderlying23 Tryz.sizeOf3 ?_; refine R.nl ?_; exact Run.loc rfl rfl rfl
     apply TC.val [2, 0]; exact rfl; kernel_rfl
     ·rintro _ rfl _ rfl _ rfl; refine R.gY (zg4) ?_; refine R.ld Tryz.isAgg3 ?_; refine R.nl ?_; exact Run.loc rfl rfl rfl
     apply TC.val [3, 0]; exact rfl; kernel_rfl
     ·rintro _ rfl _ rfl _ rfl; refine R.gY (zg4) ?_; refine R.cg Tryz.call25 (hNull_spec _) ?_; refine R.nl ?_; exact Run.loc rfl rfl rfl
     refine TC.fin (by rfl) ?_; rintro _ rfl _ rfl _ rfl _ rfl _ rfl _ rfl _ rfl; refine R.gY (zg4) ?_; refine R.ea Tryz.eqGuardType23 (eqAt23 _ _ _ _ _ _ _ _ _ _ _ _) ?_; refine R.pT (zg4) ?_; refine R.as ?_; refine R.nl ?_; refine R.hs (e' := [(3, _)]) ?_; refine R.sq ?_; refine R.sq ?_; refine R.rg ?_; refine R.mv ?_; refine R.nt ?_; refine R.nl ?_; refine R.hs (e' := [(60, _)]) ?_; refine R.cd (fun zc12 => ?_) (fun zc12 => ?_)
     ·refine R.sq ?_; refine R.rg ?_; refine R.as ?_; refine R.nl ?_; refine R.hs (e' := [(2, _)]) ?_; refine R.rt (RV.t .nil) 1 (congrArg (Value.int .i64) ?_)
      simp only [errA, okH] at *; grind
     ·refine Run.skip ?_; refine R.sq ?_; refine R.rg ?_; refine R.as ?_; refine R.nl ?_; refine R.hs (e' := [(2, _)]) ?_; refine R.rt (RV.t .nil) 1 (congrArg (Value.int .i64) ?_)
      simp only [errA, okH] at *; grind
    ·refine Run.drawC Grow.eq 6 [(1, _), (3, _)] mix (by kernel_rfl) (by repeat (first | exact trivial | refine ⟨rfl, ?_⟩)) ?_; apply TC.val []; exact rfl; kernel_rfl
     ·rintro _ rfl ; refine R.mv ?_; refine R.nl ?_; exact Run.loc rfl rfl rfl
     apply TC.val [0]; exact rfl; kernel_rfl
     ·rintro _ rfl _ rfl; refine R.mv ?_; refine R.nl ?_; exact Run.loc rfl rfl rfl
     apply TC.val [0]; exact rfl; kernel_rfl
     ·rintro _ rfl _ rfl; refine R.gF (zg4) ?_; refine R.nl ?_; exact Run.loc rfl rfl rfl
     apply TC.val [1]; exact rfl; kernel_rfl
     ·rintro _ rfl _ rfl; refine R.gF (zg4) ?_; refine R.nl ?_; exact Run.loc rfl rfl rfl
     apply TC.val [2, 0]; exact rfl; kernel_rfl
     ·rintro _ rfl _ rfl _ rfl; refine R.gF (zg4) ?_; refine R.nl ?_; exact Run.loc rfl rfl rfl
     apply TC.val [3, 0]; exact rfl; kernel_rfl
     ·rintro _ rfl _ rfl _ rfl; refine R.gF (zg4) ?_; refine R.nl ?_; exact Run.loc rfl rfl rfl
     refine TC.fin (by rfl) ?_; rintro _ rfl _ rfl _ rfl _ rfl _ rfl _ rfl _ rfl; refine R.gF (zg4) ?_; refine R.pF (zg4) ?_; refine R.as ?_; refine R.nl ?_; refine R.hs (e' := [(3, _)]) ?_; refine R.sq ?_; refine R.sq ?_; refine R.rg ?_; refine R.mv ?_; refine R.nt ?_; refine R.nl ?_; refine R.hs (e' := [(60, _)]) ?_; refine R.cT (rfl) ?_; refine R.sq ?_; refine R.rg ?_; refine R.as ?_; refine R.nl ?_; refine R.hs (e' := [(2, _)]) ?_; refine R.rt (RV.t .nil) 1 (congrArg (Value.int .i64) ?_)
     simp only [errA, okH] at *; grind
   ·refine R.rg ?_; refine R.mv ?_; refine R.mv ?_; refine R.gd (fun zg20 => ?_) (fun zg20 => ?_)
    ·refine R.fa Tryz.runUnderlying23 Tryz.sizeOf3 ?_; refine R.gY (zg20) ?_; refine R.ld Tryz.isAgg3 ?_; refine R.gY (zg20) ?_; refine R.cm ?_; refine R.pT (zg20) ?_; refine R.mv ?_; refine R.gd (fun zg21 => ?_) (fun zg21 => ?_)
     ·refine R.fa Tryz.runUnderlying23 Tryz.sizeOf3 ?_; refine R.gY (zg21) ?_; refine R.ld Tryz.isAgg3 ?_; refine R.gY (zg21) ?_; refine R.cm ?_; refine R.pT (zg21) ?_; refine R.mv ?_; refine R.gd (fun zg22 => ?_) (fun zg22 => ?_)
      ·refine R.fa Tryz.runUnderlying23 Tryz.sizeOf3 ?_; refine R.gY (zg22) ?_; refine R.ld Tryz.isAgg3 ?_; refine R.gY (zg22) ?_; refine R.cm ?_; refine R.pT (zg22) ?_; refine R.mv ?_; refine R.gd (fun zg23 => ?_) (fun zg23 => ?_)
       ·refine R.fa Tryz.runUnderlying23 Tryz.sizeOf3 ?_; refine R.gY (zg23) ?_; refine R.ld Tryz.isAgg3 ?_; refine R.gY (zg23) ?_; refine R.cm ?_; refine R.pT (zg23) ?_; refine R.mv ?_; refine R.gd (fun zg24 => ?_) (fun zg24 => ?_)
        ·refine R.fa Tryz.runUnderlying23 Tryz.sizeOf3 ?_; refine R.gY (zg24) ?_; refine R.ld Tryz.isAgg3 ?_; refine R.gY (zg24) ?_; refine R.sr (shr_i64 _ 1 (by decide)) ?_; refine R.gY (zg24) ?_; refine R.cm ?_; refine R.pT (zg24) ?_; refine R.mv ?_; refine R.gd (fun zg25 => ?_) (fun zg25 => ?_)
         ·refine R.fa Tryz.runUnderlying23 Tryz.sizeOf3 ?_; refine R.gY (zg25) ?_; refine R.ld Tryz.isAgg3 ?_; refine R.gY (zg25) ?_; refine R.cm ?_; refine R.pT (zg25) ?_; refine R.mv ?_; refine R.gd (fun zg26 => ?_) (fun zg26 => ?_)
          ·refine R.fa Tryz.runUnderlying23 Tryz.sizeOf3 ?_; refine R.gY (zg26) ?_; refine R.ld Tryz.isAgg3 ?_; refine R.gY (zg26) ?_; refine R.cm ?_; refine R.pT (zg26) ?_; refine R.as ?_; refine R.nl ?_; refine R.hs (e' := [(3, _)]) ?_; refine R.sq ?_; refine R.sq ?_; refine R.rg ?_; refine R.mv ?_; refine R.nt ?_; refine R.nl ?_; refine R.hs (e' := [(60, _)]) ?_; refine R.cd (fun zc27 => ?_) (fun zc27 => ?_)
           ·refine R.sq ?_; refine R.rg ?_; refine R.as ?_; refine R.nl ?_; refine R.hs (e' := [(2, _)]) ?_; refine R.rt (RV.t .nil) 1 (congrArg (Value.int .i64) ?_)
            simp only [errA, okH] at *; grind
           ·refine Run.skip ?_; refine R.sq ?_; refine R.rg ?_; refine R.as ?_; refine R.nl ?_; refine R.hs (e' := [(2, _)]) ?_; refine R.rt (RV.t .nil) 1 (congrArg (Value.int .i64) ?_)
            simp only [errA, okH] at *; grind
          ·refine R.gF (zg26) ?_; refine R.gF (zg26) ?_; refine R.pF (zg26) ?_; refine R.as ?_; refine R.nl ?_; refine R.hs (e' := [(3, _)]) ?_; refine R.sq ?_; refine R.sq ?_; refine R.rg ?_; refine R.mv ?_; refine R.nt ?_; refine R.nl ?_; refine R.hs (e' := [(60, _)]) ?_; refine R.cT (rfl) ?_; refine R.sq ?_; refine R.rg ?_; refine R.as ?_; refine R.nl ?_; refine R.hs (e' := [(2, _)]) ?_; refine R.rt (RV.t .nil) 1 (congrArg (Value.int .i64) ?_)
           simp only [errA, okH] at *; grind
         ·refine R.gF (zg25) ?_; refine R.gF (zg25) ?_; refine R.pF (zg25) ?_; refine R.mv ?_; refine R.gF (rfl) ?_; refine R.gF (rfl) ?_; refine R.gF (rfl) ?_; refine R.pF (rfl) ?_; refine R.as ?_; refine R.nl ?_; refine R.hs (e' := [(3, _)]) ?_; refine R.sq ?_; refine R.sq ?_; refine R.rg ?_; refine R.mv ?_; refine R.nt ?_; refine R.nl ?_; refine R.hs (e' := [(60, _)]) ?_; refine R.cT (rfl) ?_; refine R.sq ?_; refine R.rg ?_; refine R.as ?_; refine R.nl ?_; refine R.hs (e' := [(2, _)]) ?_; refine R.rt (RV.t .nil) 1 (congrArg (Value.int .i64) ?_)
          simp only [errA, okH] at *; grind
        ·refine R.gF (zg24) ?_; refine R.gF (zg24) ?_; refine R.gF (zg24) ?_; refine R.pF (zg24) ?_; refine R.mv ?_; refine R.gF (rfl) ?_; refine R.gF (rfl) ?_; refine R.gF (rfl) ?_; refine R.pF (rfl) ?_; refine R.mv ?_; refine R.gF (rfl) ?_; refine R.gF (rfl) ?_; refine R.gF (rfl) ?_; refine R.pF (rfl) ?_; refine R.as ?_; refine R.nl ?_; refine R.hs (e' := [(3, _)]) ?_; refine R.sq ?_; refine R.sq ?_; refine R.rg ?_; refine R.mv ?_; refine R.nt ?_; refine R.nl ?_; refine R.hs (e' := [(60, _)]) ?_; refine R.cT (rfl) ?_; refine R.sq ?_; refine R.rg ?_; refine R.as ?_; refine R.nl ?_; refine R.hs (e' := [(2, _)]) ?_; refine R.rt (RV.t .nil) 1 (congrArg (Value.int .i64) ?_)
         simp only [errA, okH] at *; grind
       ·refine R.gF (zg23) ?_; refine R.gF (zg23) ?_; refine R.pF (zg23) ?_; refine R.mv ?_; refine R.gF (rfl) ?_; refine R.gF (rfl) ?_; refine R.gF (rfl) ?_; refine R.gF (rfl) ?_; refine R.pF (rfl) ?_; refine R.mv ?_; refine R.gF (rfl) ?_; refine R.gF (rfl) ?_; refine R.gF (rfl) ?_; refine R.pF (rfl) ?_; refine R.mv ?_; refine R.gF (rfl) ?_; refine R.gF (rfl) ?_; refine R.gF (rfl) ?_; refine R.pF (rfl) ?_; refine R.as ?_; refine R.nl ?_; refine R.hs (e' := [(3, _)]) ?_; refine R.sq ?_; refine R.sq ?_; refine R.rg ?_; refine R.mv ?_; refine R.nt ?_; refine R.nl ?_; refine R.hs (e' := [(60, _)]) ?_; refine R.cT (rfl) ?_; refine R.sq ?_; refine R.rg ?_; refine R.as ?_; refine R.nl ?_; refine R.hs (e' := [(2, _)]) ?_; refine R.rt (RV.t .nil) 1 (congrArg (Value.int .i64) ?_)
        simp only [errA, okH] at *; grind
      ·refine R.gF (zg22) ?_; refine R.gF (zg22) ?_; refine R.pF (zg22) ?_; refine R.mv ?_; refine R.gF (rfl) ?_; refine R.gF (rfl) ?_; refine R.gF (rfl) ?_; refine R.pF (rfl) ?_; refine R.mv ?_; refine R.gF (rfl) ?_; refine R.gF (rfl) ?_; refine R.gF (rfl) ?_; refine R.gF (rfl) ?_; refine R.pF (rfl) ?_; refine R.mv ?_; refine R.gF (rfl) ?_; refine R.gF (rfl) ?_; refine R.gF (rfl) ?_; refine R.pF (rfl) ?_; refine R.mv ?_; refine R.gF (rfl) ?_; refine R.gF (rfl) ?_; refine R.gF (rfl) ?_; refine R.pF (rfl) ?_; refine R.as ?_; refine R.nl ?_; refine R.hs (e' := [(3, _)]) ?_; refine R.sq ?_; refine R.sq ?_; refine R.rg ?_; refine R.mv ?_; refine R.nt ?_; refine R.nl ?_; refine R.hs (e' := [(60, _)]) ?_; refine R.cT (rfl) ?_; refine R.sq ?_; refine R.rg ?_; refine R.as ?_; refine R.nl ?_; refine R.hs (e' := [(2, _)]) ?_; refine R.rt (RV.t .nil) 1 (congrArg (Value.int .i64) ?_)
       simp only [errA, okH] at *; grind
     ·refine R.gF (zg21) ?_; refine R.gF (zg21) ?_; refine R.pF (zg21) ?_; refine R.mv ?_; refine R.gF (rfl) ?_; refine R.gF (rfl) ?_; refine R.gF (rfl) ?_; refine R.pF (rfl) ?_; refine R.mv ?_; refine R.gF (rfl) ?_; refine R.gF (rfl) ?_; refine R.gF (rfl) ?_; refine R.pF (rfl) ?_; refine R.mv ?_; refine R.gF (rfl) ?_; refine R.gF (rfl) ?_; refine R.gF (rfl) ?_; refine R.gF (rfl) ?_; refine R.pF (rfl) ?_; refine R.mv ?_; refine R.gF (rfl) ?_; refine R.gF (rfl) ?_; refine R.gF (rfl) ?_; refine R.pF (rfl) ?_; refine R.mv ?_; refine R.gF (rfl) ?_; refine R.gF (rfl) ?_; refine R.gF (rfl) ?_; refine R.pF (rfl) ?_; refine R.as ?_; refine R.nl ?_; refine R.hs (e' := [(3, _)]) ?_; refine R.sq ?_; refine R.sq ?_; refine R.rg ?_; refine R.mv ?_; refine R.nt ?_; refine R.nl ?_; refine R.hs (e' := [(60, _)]) ?_; refine R.cT (rfl) ?_; refine R.sq ?_; refine R.rg ?_; refine R.as ?_; refine R.nl ?_
      refine R.hs (e' := [(2, _)]) ?_; refine R.rt (RV.t .nil) 1 (congrArg (Value.int .i64) ?_)
      simp only [errA, okH] at *; grind
    ·refine R.gF (zg20) ?_; refine R.gF (zg20) ?_; refine R.pF (zg20) ?_; refine R.mv ?_; refine R.gF (rfl) ?_; refine R.gF (rfl) ?_; refine R.gF (rfl) ?_; refine R.pF (rfl) ?_; refine R.mv ?_; refine R.gF (rfl) ?_; refine R.gF (rfl) ?_; refine R.gF (rfl) ?_; refine R.pF (rfl) ?_; refine R.mv ?_; refine R.gF (rfl) ?_; refine R.gF (rfl) ?_; refine R.gF (rfl) ?_; refine R.pF (rfl) ?_; refine R.mv ?_; refine R.gF (rfl) ?_; refine R.gF (rfl) ?_; refine R.gF (rfl) ?_; refine R.gF (rfl) ?_; refine R.pF (rfl) ?_; refine R.mv ?_; refine R.gF (rfl) ?_; refine R.gF (rfl) ?_; refine R.gF (rfl) ?_; refine R.pF (rfl) ?_; refine R.mv ?_; refine R.gF (rfl) ?_; refine R.gF (rfl) ?_; refine R.gF (rfl) ?_; refine R.pF (rfl) ?_; refine R.as ?_; refine R.nl ?_; refine R.hs (e' := [(3, _)]) ?_; refine R.sq ?_; refine R.sq ?_; refine R.rg ?_; refine R.mv ?_; refine R.nt ?_; refine R.nl ?_
     refine R.hs (e' := [(60, _)]) ?_; refine R.cT (rfl) ?_; refine R.sq ?_; refine R.rg ?_; refine R.as ?_; refine R.nl ?_; refine R.hs (e' := [(2, _)]) ?_; refine R.rt (RV.t .nil) 1 (congrArg (Value.int .i64) ?_)
     simp only [errA, okH] at *; grind
  ·refine R.gF (zg2) ?_; refine R.gF (zg2) ?_; refine R.pF (zg2) ?_; refine R.as ?_; refine R.nl ?_; refine R.hs (e' := [(1, _), (3, _)]) ?_; refine R.sq ?_; refine R.sq ?_; refine R.rg ?_; refine R.fa Tryz.runUnderlying23 Tryz.sizeOf4 ?_; refine R.ld Tryz.isAgg4 ?_; refine R.nl ?_; refine R.hs (e' := [(1, _), (3, _), (13, _)]) ?_; refine R.cd (fun zc28 => ?_) (fun zc28 => ?_)
   ·refine Run.drawC Grow.eq 6 [(1, _), (3, _)] mix (by kernel_rfl) (by repeat (first | exact trivial | refine ⟨rfl, ?_⟩)) ?_; apply TC.val []; exact rfl; kernel_rfl
    ·rintro _ rfl ; refine R.mv ?_; refine R.nl ?_; exact Run.loc rfl rfl rfl
    apply TC.val [0]; exact rfl; kernel_rfl
    ·rintro _ rfl _ rfl; refine R.mv ?_; refine R.nl ?_; exact Run.loc rfl rfl rfl
    apply TC.val [0]; exact rfl; kernel_rfl
    ·rintro _ rfl _ rfl; refine R.gF (rfl) ?_; refine R.nl ?_; exact Run.loc rfl rfl rfl
    apply TC.val [1]; exact rfl; kernel_rfl
    ·rintro _ rfl _ rfl; refine R.gF (rfl) ?_; refine R.nl ?_; exact Run.loc rfl rfl rfl
    apply TC.val [2, 0]; exact rfl; kernel_rfl
    ·rintro _ rfl _ rfl _ rfl; refine R.gF (rfl) ?_; refine R.nl ?_; exact Run.loc rfl rfl rfl
    apply TC.val [3, 0]; exact rfl; kernel_rfl
    ·rintro _ rfl _ rfl _ rfl; refine R.gF (rfl) ?_; refine R.nl ?_; exact Run.loc rfl rfl rfl
    refine TC.fin (by rfl) ?_; rintro _ rfl _ rfl _ rfl _ rfl _ rfl _ rfl _ rfl; refine R.gF (rfl) ?_; refine R.pF (rfl) ?_; refine R.as ?_; refine R.nl ?_; refine R.hs (e' := [(3, _)]) ?_; refine R.sq ?_; refine R.sq ?_; refine R.rg ?_; refine R.mv ?_; refine R.nt ?_; refine R.nl ?_; refine R.hs (e' := [(60, _)]) ?_; refine R.cT (rfl) ?_; refine R.sq ?_; refine R.rg ?_; refine R.as ?_; refine R.nl ?_; refine R.hs (e' := [(2, _)]) ?_; refine R.rt (RV.t .nil) 1 (congrArg (Value.int .i64) ?_)
    simp only [errA, okH] at *; grind
   ·refine R.rg ?_; refine R.mv ?_; refine R.mv ?_; refine R.gF (rfl) ?_; refine R.gF (rfl) ?_; refine R.gF (rfl) ?_; refine R.pF (rfl) ?_; refine R.mv ?_; refine R.gF (rfl) ?_; refine R.gF (rfl) ?_; refine R.gF (rfl) ?_; refine R.pF (rfl) ?_; refine R.mv ?_; refine R.gF (rfl) ?_; refine R.gF (rfl) ?_; refine R.gF (rfl) ?_; refine R.pF (rfl) ?_; refine R.mv ?_; refine R.gF (rfl) ?_; refine R.gF (rfl) ?_; refine R.gF (rfl) ?_; refine R.pF (rfl) ?_; refine R.mv ?_; refine R.gF (rfl) ?_; refine R.gF (rfl) ?_; refine R.gF (rfl) ?_; refine R.gF (rfl) ?_; refine R.pF (rfl) ?_; refine R.mv ?_; refine R.gF (rfl) ?_; refine R.gF (rfl) ?_; refine R.gF (rfl) ?_; refine R.pF (rfl) ?_; refine R.mv ?_; refine R.gF (rfl) ?_; refine R.gF (rfl) ?_; refine R.gF (rfl) ?_; refine R.pF (rfl) ?_; refine R.as ?_; refine R.nl ?_; refine R.hs (e' := [(3, _)]) ?_; refine R.sq ?_; refine R.sq ?_; refine R.rg ?_
    refine R.mv ?_; refine R.nt ?_; refine R.nl ?_; refine R.hs (e' := [(60, _)]) ?_; refine R.cT (rfl) ?_; refine R.sq ?_; refine R.rg ?_; refine R.as ?_; refine R.nl ?_; refine R.hs (e' := [(2, _)]) ?_; refine R.rt (RV.t .nil) 1 (congrArg (Value.int .i64) ?_)
    simp only [errA, okH] at *; grind
theorem hAt_spec {g : Gl} {D : Dict} {M : MList} (l : Lv) (delta id : Int) : Gives Tryz.prog g 49 [.agg (Lv.cells l).toArray, .int .i64 delta, .int .i64 id] D M
    (.tuple #[.agg (Ht.cells (if okH (atH l delta id) then atH l delta id else z0H)).toArray, .int .i64 (errA (okH (atH l delta id)))]) := by
  refine Gives.enter Tryz.func49 rfl Tryz.ntmps49 ?_; refine R.sq ?_; refine R.rg ?_; refine R.bxA (fun zb1 hzb1 => ?_); refine R.alA Tryz.zeroValue23 (fun zb2 hzb2 => ?_); refine R.as ?_; refine R.nl ?_; refine R.hs (e' := [(1, _), (2, _), (3, _), (6, _)]) ?_; refine R.sq ?_; refine R.rg ?_; refine R.fa Tryz.runUnderlying28 Tryz.sizeOf3 ?_; refine R.ld Tryz.isAgg3 ?_; refine R.fa Tryz.runUnderlying28 Tryz.sizeOf3 ?_; refine R.ld Tryz.isAgg3 ?_; refine R.fa Tryz.runUnderlying28 Tryz.sizeOf3 ?_; refine R.ld Tryz.isAgg3 ?_; refine R.mv ?_; refine R.mv ?_; refine R.bd Tryz.zeroValue23 places23 ?_; refine R.alA Tryz.zeroValue23 (fun zb3 hzb3 => ?_); refine R.st Tryz.sizeOf23 ?_; refine R.nl ?_; refine R.hs (e' := [(6, _), (8, _)]) ?_; refine R.sq ?_; refine R.sq ?_; refine R.rg ?_; refine R.lA 6 Tryz.isAgg23 Tryz.sizeOf23 ?_; refine R.cg Tryz.call44 (hCheck_spec (atH l delta id)) ?_
  refine R.as ?_; refine R.nl ?_; refine R.hs (e' := [(6, _), (8, _), (9, _)]) ?_; refine R.sq ?_; refine R.rg ?_; refine R.mv ?_; refine R.cm ?_; refine R.nl ?_; refine R.hs (e' := [(6, _), (8, _), (9, _), (22, _)]) ?_; refine R.cd (fun zc4 => ?_) (fun zc4 => ?_)
  ·refine R.sq ?_; refine R.rg ?_; refine R.bd Tryz.zeroValue23 places23 ?_; refine R.mv ?_; refine R.st Tryz.sizeOf23 ?_; refine R.as ?_; refine R.nl ?_; refine R.hs (e' := [(6, _), (7, _)]) ?_; refine R.rt (RV.a Tryz.isAgg23 Tryz.sizeOf23 (RV.t .nil)) 3 ?_
   cases hq : okH (atH l delta id) <;> simp only [hq] at * <;> first | rfl | (simp [errA] at *)
  ·refine Run.skip ?_; refine R.sq ?_; refine R.rg ?_; refine R.lA 6 Tryz.isAgg23 Tryz.sizeOf23 ?_; refine R.st Tryz.sizeOf23 ?_; refine R.as ?_; refine R.nl ?_; refine R.hs (e' := [(6, _), (7, _)]) ?_; refine R.rt (RV.a Tryz.isAgg23 Tryz.sizeOf23 (RV.t .nil)) 3 ?_
   cases hq : okH (atH l delta id) <;> simp only [hq] at * <;> first | rfl | (simp [errA] at *)
end Go.Proofs.YtgdpjpmjcpieiaaGreat

/- Slices that read as lists. No condition. -/
namespace Go.Proofs.YtgdpjpmjcpieiaaGreat
open Go
set_option linter.unusedVariables false
set_option linter.unusedSimpArgs false
/-- cells that never change any more -/
structure CsD (D : Dict) (b off sz : Nat) (us : List Value) : Prop where
  cs : ∃ c T fr, D b = some (.cells c T fr) ∧ ∀ j u, us[j]? = some u → c[off + j]? = some u
  len : us.length = sz
theorem CsD.mono {D D' : Dict} {b off sz : Nat} {us : List Value} (h : CsD D b off sz us) (hD : Le D D') : CsD D' b off sz us := by
  obtain ⟨⟨c, T, fr, h1, h2⟩, h3⟩ := h
  exact ⟨⟨c, T, fr, hD _ _ h1, h2⟩, h3⟩
theorem CsD.at0 {D : Dict} {M : MList} {b off sz : Nat} {us : List Value} (h : CsD D b off sz us) : CsN D M b off sz us := by
  obtain ⟨⟨c, T, fr, h1, h2⟩, h3⟩ := h
  exact ⟨⟨c, T, fr, .inl h1, h2⟩, h3⟩
theorem CsD.sub {D : Dict} {M : MList} {b off sz f m : Nat} {us vs : List Value} (h : CsD D b off sz us) (ht : takeN f m us = some vs) : CsN D M b (off + f) m vs := by
  obtain ⟨⟨c, T, fr, h1, h2⟩, h3⟩ := h
  obtain ⟨e1, e2⟩ := takeN_spec ht
  refine ⟨⟨c, T, fr, .inl h1, fun j u hu => ?_⟩, e1⟩
  have hj : j < m := by
    rcases Nat.lt_or_ge j vs.length with h | h
    · omega
    · rw [List.getElem?_eq_none h] at hu; cases hu
  rw [Nat.add_assoc]
  exact h2 _ _ (by rw [e2 j hj]; exact hu)
/-- v reads as the list xs, each element of sz cells -/
def Lst {α : Type} (D : Dict) (sz : Nat) (cells : α → List Value) (v : Value) (xs : List α) : Prop := Sl D sz v xs.length (xs.flatMap cells)
theorem Lst.mono {α : Type} {D D' : Dict} {sz : Nat} {cells : α → List Value} {v : Value} {xs : List α} (h : Lst D sz cells v xs) (hD : Le D D') : Lst D' sz cells v xs := Sl.mono h hD
theorem Lst.nil {α : Type} (D : Dict) (sz : Nat) (cells : α → List Value) : Lst D sz cells (.slice none 0 0) [] := Sl.nil D sz
theorem flat_at {α : Type} {cells : α → List Value} {sz : Nat} (hc : ∀ x, (cells x).length = sz) : ∀ (xs : List α) (i k : Nat) (x : α), xs[i]? = some x → k < sz → (xs.flatMap cells)[i * sz + k]? = (cells x)[k]?
  | [], i, k, x, h, _ => by simp at h
  | y :: r, 0, k, x, h, hk => by
    simp at h
    subst h
    rw [List.flatMap_cons, Nat.zero_mul, Nat.zero_add, List.getElem?_append_left (by rw [hc]; exact hk)]
  | y :: r, i + 1, k, x, h, hk => by
    rw [List.flatMap_cons, List.getElem?_append_right (by rw [hc, Nat.succ_mul]; omega), hc]
    rw [show (i + 1) * sz + k - sz = i * sz + k by rw [Nat.succ_mul]; omega]
    exact flat_at hc r i k x (by simpa using h) hk
theorem flat_len {α : Type} {cells : α → List Value} {sz : Nat} (hc : ∀ x, (cells x).length = sz) (xs : List α) : (xs.flatMap cells).length = xs.length * sz := by
  induction xs with
  | nil => simp
  | cons x r ih => rw [List.flatMap_cons, List.length_append, hc, ih, List.length_cons, Nat.succ_mul]; omega
/-- element i of v lies there -/
def IxAt (v : Value) (i sz b off : Nat) : Prop := ∃ o0 l c, v = .slice (some ⟨b, o0, none⟩) l c ∧ i < l ∧ off = o0 + i * sz
theorem Lst.at {α : Type} {D : Dict} {sz : Nat} {cells : α → List Value} {v : Value} {xs : List α} (h : Lst D sz cells v xs) (hc : ∀ x, (cells x).length = sz) {i : Nat} {x : α} (hi : xs[i]? = some x) : ∃ b off, IxAt v i sz b off ∧ CsD D b off sz (cells x) := by
  have hlt : i < xs.length := by
    rcases Nat.lt_or_ge i xs.length with h | h
    · exact h
    · rw [List.getElem?_eq_none h] at hi; cases hi
  obtain ⟨h1, hn, A, cap, rfl, h3, h4⟩ := h
  obtain ⟨b, o0, c, T, fr, rfl, e2, e3⟩ := h4 (by omega)
  refine ⟨b, o0 + i * sz, ⟨o0, _, cap, rfl, hlt, rfl⟩, ⟨c, T, fr, e2, fun j u hu => ?_⟩, hc x⟩
  have hj : j < sz := by
    rcases Nat.lt_or_ge j (cells x).length with h | h
    · rw [hc] at h; exact h
    · rw [List.getElem?_eq_none h] at hu; cases hu
  rw [Nat.add_assoc]
  exact e3 _ _ (by rw [flat_at hc xs i j x hi hj]; exact hu)
theorem Lst.form {α : Type} {D : Dict} {sz : Nat} {cells : α → List Value} {v : Value} {xs : List α} (h : Lst D sz cells v xs) : ∃ A cap, v = .slice A xs.length cap ∧ xs.length ≤ cap ∧ xs.length ≤ 9223372036854775807 := by
  obtain ⟨_, hn, A, cap, h2, h3, _⟩ := h
  exact ⟨A, cap, h2, h3, by simpa [maxLen] using hn⟩
theorem Src.at {α : Type} {D : Dict} {M : MList} {sz : Nat} {cells : α → List Value} {v : Value} {xs : List α} {fl : List Value} (h : Src D M sz v xs.length fl) (hf : fl = xs.flatMap cells) (hc : ∀ x, (cells x).length = sz) {i : Nat} {x : α} (hi : xs[i]? = some x) : ∃ b off, IxAt v i sz b off ∧ CsN D M b off sz (cells x) := by
  subst hf
  have hlt : i < xs.length := by
    rcases Nat.lt_or_ge i xs.length with h | h
    · exact h
    · rw [List.getElem?_eq_none h] at hi; cases hi
  obtain ⟨h1, A, cap, rfl, h4⟩ := h
  obtain ⟨b, o0, rfl, c, T, fr, e2, e3⟩ := h4 (by omega)
  refine ⟨b, o0 + i * sz, ⟨o0, _, cap, rfl, hlt, rfl⟩, ⟨c, T, fr, e2, fun j u hu => ?_⟩, hc x⟩
  have hj : j < sz := by
    rcases Nat.lt_or_ge j (cells x).length with h | h
    · rw [hc] at h; exact h
    · rw [List.getElem?_eq_none h] at hu; cases hu
  rw [Nat.add_assoc]
  exact e3 _ _ (by rw [flat_at hc xs i j x hi hj]; exact hu)
/-- a fresh row reads as what was written into it -/
theorem Src.lit {D : Dict} {M : MList} {b sz m c : Nat} {T : TypeId} {fr : Nat × Nat} {cs : List Value} (h : (b, Obj.cells cs.toArray T fr) ∈ M) (hl : cs.length = m * sz) : Src D M sz (.slice (some ⟨b, 0, none⟩) m c) m cs :=
  ⟨hl, _, _, rfl, fun _ => ⟨b, 0, rfl, _, T, fr, .inr h, fun j u hu => by simpa using hu⟩⟩
theorem Lst.src {α : Type} {D : Dict} {sz : Nat} {cells : α → List Value} {v : Value} {xs : List α} (h : Lst D sz cells v xs) (M : MList) : Src D M sz v xs.length (xs.flatMap cells) := Sl.src h M
theorem St.le {g : Gl} {w : World} {D D0 : Dict} {M : MList} (h : St g w D M) (hl : Le D0 D) : St g w D0 M := by
  refine ⟨h.os, h.out, h.tape, fun b o hb => h.imm b o (hl b o hb), h.mt, h.nd, fun p hp => ?_, h.drw⟩
  have h1 := h.dis p hp
  cases hq : D0 p.1 with
  | none => rfl
  | some o => rw [hl _ _ hq] at h1; cases h1
/-- a call whose answer is told, what it leads to new, and never written again -/
def Gets (P : Program) (g : Gl) (f : FuncId) (vs : List Value) (D : Dict) (M : MList) (F : Value → Dict → Prop) : Prop := Spec P g f vs D M (fun v D' M' => Le D D' ∧ M' = M ∧ F v D')
theorem Gives.gets {P : Program} {g : Gl} {f : FuncId} {vs : List Value} {D : Dict} {M : MList} {v : Value} {F : Value → Dict → Prop} (h : Gives P g f vs D M v) (hF : F v D) : Gets P g f vs D M F :=
  Spec.mono h fun _ _ _ ⟨h1, h2, h3⟩ => ⟨h2 ▸ Le.rfl', h3, by rw [h1, h2]; exact hF⟩
theorem ins_self {D : Dict} {b : Nat} {o : Obj} : ins D b o b = some o := by simp [ins]
/-- a fresh row, never written again, reads as a list -/
theorem Lst.lit {α : Type} {D : Dict} {sz : Nat} {cells : α → List Value} {b m c : Nat} {T : TypeId} {fr : Nat × Nat} {cs : List Value} (xs : List α) (h : D b = some (.cells cs.toArray T fr)) (hcs : cs = xs.flatMap cells) (hc : ∀ x, (cells x).length = sz) (hm : m = xs.length) (h1 : m ≤ c) (h2 : m ≤ maxLen) :
    Lst D sz cells (.slice (some ⟨b, 0, none⟩) m c) xs := by
  subst hcs; subst hm
  exact ⟨flat_len hc xs, h2, _, _, rfl, h1, fun _ => ⟨b, 0, _, T, fr, rfl, h, fun j u hu => by simpa using hu⟩⟩
/-- ints -/
abbrev ints (xs : List Int) : List Value := xs.map (Value.int .i64 ·)
theorem ints_flat (xs : List Int) : ints xs = xs.flatMap (fun x => [Value.int .i64 x]) := by induction xs with
  | nil => rfl
  | cons x r ih => rw [List.flatMap_cons, ← ih]; rfl
abbrev Ints (D : Dict) (v : Value) (xs : List Int) : Prop := Lst D 1 (fun x => [Value.int .i64 x]) v xs
section
variable {P : Program} {n : Nat} {Q : Exit → Act → World → Prop} {g : Gl} {k : List It} {e : Env} {D : Dict} {M : MList}
  {all : Array Oper} {rest : List Oper} {dst : Option Nat} {ty : TypeId} {pos : String} {af : Array Edge}
theorem R.ix {t el : TypeId} {x io : Operand} {v : Value} {i b off sz : Nat} {j : Int} {kd : IntKind} (hI : IxAt v i sz b off) (hu : ∀ w, (underlying t).run P w = .ok (.slice el) w) (hS : ∀ w, (sizeOf el).run P w = .ok sz w)
    (h : Run P n Q g (.ops all rest :: k) (e.put dst (.pointer (some ⟨b, off, none⟩))) D M) (hx : e.ev x = some v := by rfl) (hi : e.ev io = some (.int kd j) := by rfl) (hj : j = (i : Int) := by first | rfl | omega | (dsimp only; omega) | (simp at *; omega)) (hd : dstOk n dst = true := by rfl) :
    Run P n Q g (.ops all (⟨dst, .indexAddr t x io, ty, pos, af, none⟩ :: rest) :: k) e D M := by
  obtain ⟨o0, l, c, rfl, h1, rfl⟩ := hI
  subst hj
  exact Run.indexAddr hu hS hx hi (by omega) (by omega) hd (by rw [Int.toNat_natCast]; exact h)
/-- the length of what reads as a list -/
theorem R.ll {α : Type} {sz : Nat} {cells : α → List Value} {xs : List α} {t : TypeId} {x : Operand} {v : Value} {el : TypeId} (hL : Lst D sz cells v xs) (hu : ∀ w, (underlying t).run P w = .ok (.slice el) w) (h : Run P n Q g (.ops all rest :: k) (e.put dst (.int .i64 (xs.length : Int))) D M) (hx : e.ev x = some v := by rfl) (hd : dstOk n dst = true := by rfl) :
    Run P n Q g (.ops all (⟨dst, .call { callee := .builtin .len, args := #[x], argTypes := #[t] }, ty, pos, af, none⟩ :: rest) :: k) e D M := by
  obtain ⟨A, cap, rfl, _, _⟩ := hL.form
  exact Run.len hu hx hd h
theorem R.ldD {t : TypeId} {x : Operand} {b off : Nat} {v : Value} (hA : ∀ w, (isAgg t).run P w = .ok false w) (h : Run P n Q g (.ops all rest :: k) (e.put dst v) D M) (hx : e.ev x = some (.pointer (some ⟨b, off, none⟩)) := by rfl)
    (hc : CsN D M b off 1 [v] := by first | exact CsD.sub (by assumption) rfl | exact CsD.at0 (by assumption) | assumption | (rw [Nat.add_assoc]; exact CsD.sub (by assumption) rfl))
    (hd : dstOk n dst = true := by rfl) : Run P n Q g (.ops all (⟨dst, .load t x, ty, pos, af, none⟩ :: rest) :: k) e D M := Run.load1 hA hx hc.cs hd h
theorem R.lAD {t : TypeId} {x : Operand} {b off : Nat} {vs : List Value} (sz : Nat) (hA : ∀ w, (isAgg t).run P w = .ok true w) (hS : ∀ w, (sizeOf t).run P w = .ok sz w) (h : Run P n Q g (.ops all rest :: k) (e.put dst (.agg vs.toArray)) D M) (hx : e.ev x = some (.pointer (some ⟨b, off, none⟩)) := by rfl)
    (hc : CsN D M b off sz vs := by first | exact CsD.at0 (by assumption) | exact CsD.sub (by assumption) rfl | assumption | (rw [Nat.add_assoc]; exact CsD.sub (by assumption) rfl))
    (hd : dstOk n dst = true := by rfl) : Run P n Q g (.ops all (⟨dst, .load t x, ty, pos, af, none⟩ :: rest) :: k) e D M := Run.loadA hA (hc.len ▸ hS) hx hc.cs hd h
/-- the end of a function that tells a value; what is new and never written is left behind too -/
theorem R.rl {fn : Func} {v u : Value} {vs : List Value} {M0 : MList} {D0 : Dict} (hr : RVs P e D M fn.results.toList vs) (j : Nat) (hl : Le D0 D) (hv : u = v) (hu : oneO vs = some u := by rfl) (hM : M.drop j = M0 := by rfl) :
    Run P n (bodyPost P fn (fun ex w' => ∃ v' D' M', ex = .returned v' ∧ St g w' D' M' ∧ (v' = v ∧ D' = D0 ∧ M' = M0))) g (.code .ret :: k) e D M :=
  fun a w he hd hs => wp_ret (itp_ret (k := k) (Q := bodyPost P fn _) ⟨hd, _, hr.run he hs, ⟨_, D0, M0, rfl, hM ▸ (hs.drop j).le hl, (oneO_eq hu).trans hv, rfl, rfl⟩⟩)
theorem R.gt {args : List Operand} {tys : Array TypeId} {f : FuncId} {vs : List Value} {F : Value → Dict → Prop} (hf : ∀ args w, (callFunc f args).run P w = .ok (.enter f args) w) (hc : Gets P g f vs D M F) (h : ∀ v D', Le D D' → F v D' → Run P n Q g (.ops all rest :: k) (e.put dst v) D' M)
    (ha : e.evs args = some vs := by rfl) (hd : dstOk n dst = true := by rfl) : Run P n Q g (.ops all (⟨dst, .call { callee := .value (.func f), args := args.toArray, argTypes := tys }, ty, pos, af, none⟩ :: rest) :: k) e D M :=
  Run.call hf ha hd hc (fun _ _ _ ⟨h1, h2, h3⟩ => by subst h2; exact h _ _ h1 h3)
theorem Gets.enter {f : FuncId} {fn : Func} {c : Code} {vs : List Value} {F : Value → Dict → Prop} (hf : P.funcs[f]? = some fn) (hb : fn.body = some c) (hn : fn.ntmps = n)
    (h : Run P n (bodyPost P fn (fun ex w' => ∃ v' D' M', ex = .returned v' ∧ St g w' D' M' ∧ (Le D D' ∧ M' = M ∧ F v' D'))) g [.code c] (argEnv 0 vs) D M) (hl : Nat.ble vs.length n = true := by rfl) : Gets P g f vs D M F := Spec.enter hf hb hn hl h
end
end Go.Proofs.YtgdpjpmjcpieiaaGreat

/- Heights: their order, by the document's answer and by the program. No condition. -/
namespace Go.Proofs.YtgdpjpmjcpieiaaGreat
open Go
set_option linter.unusedVariables false
set_option linter.unusedSimpArgs false
set_option maxRecDepth 100000
set_option maxHeartbeats 0
theorem nan_spec {g : Gl} {D : Dict} {M : MList} (a : Int) : Gives Tryz.prog g 141 [.int .i64 a] D M (.bool false) := by
  refine Gives.enter Tryz.func141 rfl Tryz.ntmps141 ?_; refine R.sq ?_; refine R.rg ?_; refine R.as ?_; refine R.nl ?_; refine R.hs (e' := [(0, _)]) ?_; refine R.sq ?_; refine R.rg ?_; refine R.mv ?_; refine R.mv ?_; refine R.cm ?_; refine R.as ?_; refine R.nl ?_; refine R.hs (e' := [(2, _)]) ?_; refine R.rt (RV.t .nil) 0 (congrArg Value.bool ?_)
  simp
theorem cmp_spec {g : Gl} {D : Dict} {M : MList} (a b : Int) : Gives Tryz.prog g 121 [.int .i64 a, .int .i64 b] D M (.int .i64 (cmpI a b)) := by
  refine Gives.enter Tryz.func121 rfl Tryz.ntmps121 ?_; refine R.sq ?_; refine R.rg ?_; refine R.as ?_; refine R.nl ?_; refine R.hs (e' := [(0, _), (1, _)]) ?_; refine R.sq ?_; refine R.rg ?_; refine R.mv ?_; refine R.cg Tryz.call141 (nan_spec _) ?_; refine R.as ?_; refine R.nl ?_; refine R.hs (e' := [(0, _), (1, _), (5, _)]) ?_; refine R.sq ?_; refine R.rg ?_; refine R.mv ?_; refine R.cg Tryz.call141 (nan_spec _) ?_; refine R.as ?_; refine R.nl ?_; refine R.hs (e' := [(0, _), (1, _), (5, _), (6, _)]) ?_; refine R.sq ?_; refine R.sq ?_; refine R.rg ?_; refine R.mv ?_; refine R.nl ?_; refine R.hs (e' := [(0, _), (1, _), (6, _), (11, _)]) ?_; refine R.cF (rfl) ?_; refine Run.skip ?_; refine R.sq ?_; refine R.sq ?_; refine R.rg ?_; refine R.mv ?_; refine R.nl ?_; refine R.hs (e' := [(0, _), (1, _), (13, _)]) ?_; refine R.cF (rfl) ?_; refine Run.skip ?_; refine R.sq ?_; refine R.sq ?_
  refine R.rg ?_; refine R.mv ?_; refine R.mv ?_; refine R.cm ?_; refine R.nl ?_; refine R.hs (e' := [(0, _), (1, _), (16, _)]) ?_; refine R.cd (fun zc1 => ?_) (fun zc1 => ?_)
  ·refine R.sq ?_; refine R.rg ?_; refine R.as ?_; refine R.nl ?_; refine R.hs (e' := [(4, _)]) ?_; refine R.rt (RV.t .nil) 0 (congrArg (Value.int .i64) ?_)
   simp only [cmpI] at *; grind
  ·refine Run.skip ?_; refine R.sq ?_; refine R.sq ?_; refine R.rg ?_; refine R.mv ?_; refine R.mv ?_; refine R.cm ?_; refine R.nl ?_; refine R.hs (e' := [(19, _)]) ?_; refine R.cd (fun zc2 => ?_) (fun zc2 => ?_)
   ·refine R.sq ?_; refine R.rg ?_; refine R.as ?_; refine R.nl ?_; refine R.hs (e' := [(4, _)]) ?_; refine R.rt (RV.t .nil) 0 (congrArg (Value.int .i64) ?_)
    simp only [cmpI] at *; grind
   ·refine Run.skip ?_; refine R.sq ?_; refine R.rg ?_; refine R.as ?_; refine R.nl ?_; refine R.hs (e' := [(4, _)]) ?_; refine R.rt (RV.t .nil) 0 (congrArg (Value.int .i64) ?_)
    simp only [cmpI] at *; grind
theorem known_spec {g : Gl} {D : Dict} {M : MList} (h : Ht) : Gives Tryz.prog g 127 [.agg (Ht.cells h).toArray] D M (.bool (toldH h)) := by
  refine Gives.enter Tryz.func127 rfl Tryz.ntmps127 ?_; refine R.sq ?_; refine R.rg ?_; refine R.bxA (fun zb1 hzb1 => ?_); refine R.as ?_; refine R.nl ?_; refine R.hs (e' := [(1, _)]) ?_; refine R.sq ?_; refine R.rg ?_; refine R.fa Tryz.runUnderlying23 Tryz.sizeOf4 ?_; refine R.ld Tryz.isAgg4 ?_; refine R.nt ?_; refine R.mv ?_; refine R.gd (fun zg2 => ?_) (fun zg2 => ?_)
  ·refine R.lA 6 Tryz.isAgg23 Tryz.sizeOf23 ?_; refine R.gY (zg2) ?_; refine R.cg Tryz.call44 (hCheck_spec _) ?_; refine R.gY (zg2) ?_; refine R.cm ?_; refine R.pT (zg2) ?_; refine R.as ?_; refine R.nl ?_; refine R.hs (e' := [(2, _)]) ?_; refine R.rt (RV.t .nil) 1 (congrArg Value.bool ?_)
   simp only [toldH, errA] at *; grind
  ·refine R.gF (zg2) ?_; refine R.gF (zg2) ?_; refine R.pF (zg2) ?_; refine R.as ?_; refine R.nl ?_; refine R.hs (e' := [(2, _)]) ?_; refine R.rt (RV.t .nil) 1 (congrArg Value.bool ?_)
   simp only [toldH, errA] at *; grind
theorem lvl_spec {g : Gl} {D : Dict} {M : MList} (h : Ht) : Gives Tryz.prog g 102 [.agg (Ht.cells h).toArray] D M (.agg (Lv.cells (lvlH h)).toArray) := by
  refine Gives.enter Tryz.func102 rfl Tryz.ntmps102 ?_; refine R.sq ?_; refine R.rg ?_; refine R.bxA (fun zb1 hzb1 => ?_); refine R.alA Tryz.zeroValue28 (fun zb2 hzb2 => ?_); refine R.nl ?_; refine R.hs (e' := [(1, _), (2, _)]) ?_; refine R.sq ?_; refine R.sq ?_; refine R.rg ?_; refine R.lA 6 Tryz.isAgg23 Tryz.sizeOf23 ?_; refine R.cg Tryz.call127 (known_spec _) ?_; refine R.nt ?_; refine R.nl ?_; refine R.hs (e' := [(1, _), (2, _), (5, _)]) ?_; refine R.cd (fun zc3 => ?_) (fun zc3 => ?_)
  ·refine R.sq ?_; refine R.rg ?_; refine R.bd Tryz.zeroValue28 places28 ?_; refine R.st Tryz.sizeOf28 ?_; refine R.nl ?_; refine R.hs (e' := [(2, _)]) ?_; refine R.rt (RV.a Tryz.isAgg28 Tryz.sizeOf28 .nil) 2 ?_
   simp_all [lvlH]
  ·refine Run.skip ?_; refine R.sq ?_; refine R.rg ?_; refine R.fa Tryz.runUnderlying23 Tryz.sizeOf3 ?_; refine R.ld Tryz.isAgg3 ?_; refine R.fa Tryz.runUnderlying23 Tryz.sizeOf3 ?_; refine R.ld Tryz.isAgg3 ?_; refine R.fa Tryz.runUnderlying23 Tryz.sizeOf3 ?_; refine R.ld Tryz.isAgg3 ?_; refine R.bd Tryz.zeroValue28 places28 ?_; refine R.st Tryz.sizeOf28 ?_; refine R.nl ?_; refine R.hs (e' := [(2, _)]) ?_; refine R.rt (RV.a Tryz.isAgg28 Tryz.sizeOf28 .nil) 2 ?_
   simp_all [lvlH]
theorem refLvl_spec {g : Gl} {D : Dict} {M : MList} (h : Ht) : Gives Tryz.prog g 112 [.agg (Ht.cells h).toArray] D M (.agg (Lv.cells (lvlH h)).toArray) := by
  refine Gives.enter Tryz.func112 rfl Tryz.ntmps112 ?_; refine R.sq ?_; refine R.rg ?_; refine R.bxA (fun zb1 hzb1 => ?_); refine R.alA Tryz.zeroValue28 (fun zb2 hzb2 => ?_); refine R.nl ?_; refine R.hs (e' := [(1, _), (2, _)]) ?_; refine R.sq ?_; refine R.sq ?_; refine R.rg ?_; refine R.lA 6 Tryz.isAgg23 Tryz.sizeOf23 ?_; refine R.cg Tryz.call111 (refTold_spec _) ?_; refine R.nt ?_; refine R.nl ?_; refine R.hs (e' := [(1, _), (2, _), (5, _)]) ?_; refine R.cd (fun zc3 => ?_) (fun zc3 => ?_)
  ·refine R.sq ?_; refine R.rg ?_; refine R.bd Tryz.zeroValue28 places28 ?_; refine R.st Tryz.sizeOf28 ?_; refine R.nl ?_; refine R.hs (e' := [(2, _)]) ?_; refine R.rt (RV.a Tryz.isAgg28 Tryz.sizeOf28 .nil) 2 ?_
   simp_all [lvlH]
  ·refine Run.skip ?_; refine R.sq ?_; refine R.rg ?_; refine R.fa Tryz.runUnderlying23 Tryz.sizeOf3 ?_; refine R.ld Tryz.isAgg3 ?_; refine R.fa Tryz.runUnderlying23 Tryz.sizeOf3 ?_; refine R.ld Tryz.isAgg3 ?_; refine R.fa Tryz.runUnderlying23 Tryz.sizeOf3 ?_; refine R.ld Tryz.isAgg3 ?_; refine R.bd Tryz.zeroValue28 places28 ?_; refine R.st Tryz.sizeOf28 ?_; refine R.nl ?_; refine R.hs (e' := [(2, _)]) ?_; refine R.rt (RV.a Tryz.isAgg28 Tryz.sizeOf28 .nil) 2 ?_
   simp_all [lvlH]
theorem refAt_spec {g : Gl} {D : Dict} {M : MList} (l : Lv) (delta id : Int) : Gives Tryz.prog g 114 [.agg (Lv.cells l).toArray, .int .i64 delta, .int .i64 id] D M
    (.tuple #[.agg (Ht.cells (if okH (atH l delta id) then atH l delta id else z0H)).toArray, .int .i64 (errA (okH (atH l delta id)))]) := by
  refine Gives.enter Tryz.func114 rfl Tryz.ntmps114 ?_; refine R.sq ?_; refine R.rg ?_; refine R.bxA (fun zb1 hzb1 => ?_); refine R.alA Tryz.zeroValue23 (fun zb2 hzb2 => ?_); refine R.as ?_; refine R.nl ?_; refine R.hs (e' := [(1, _), (2, _), (3, _), (6, _)]) ?_; refine R.sq ?_; refine R.rg ?_; refine R.fa Tryz.runUnderlying28 Tryz.sizeOf3 ?_; refine R.ld Tryz.isAgg3 ?_; refine R.fa Tryz.runUnderlying28 Tryz.sizeOf3 ?_; refine R.ld Tryz.isAgg3 ?_; refine R.fa Tryz.runUnderlying28 Tryz.sizeOf3 ?_; refine R.ld Tryz.isAgg3 ?_; refine R.mv ?_; refine R.mv ?_; refine R.bd Tryz.zeroValue23 places23 ?_; refine R.alA Tryz.zeroValue23 (fun zb3 hzb3 => ?_); refine R.st Tryz.sizeOf23 ?_; refine R.nl ?_; refine R.hs (e' := [(6, _), (8, _)]) ?_; refine R.sq ?_; refine R.sq ?_; refine R.rg ?_; refine R.lA 6 Tryz.isAgg23 Tryz.sizeOf23 ?_; refine R.cg Tryz.call47 (refRight_spec (atH l delta id)) ?_
  refine R.nt ?_; refine R.nl ?_; refine R.hs (e' := [(6, _), (8, _), (20, _)]) ?_; refine R.cd (fun zc4 => ?_) (fun zc4 => ?_)
  ·refine R.sq ?_; refine R.rg ?_; refine R.bd Tryz.zeroValue23 places23 ?_; refine R.st Tryz.sizeOf23 ?_; refine R.as ?_; refine R.nl ?_; refine R.hs (e' := [(6, _), (7, _)]) ?_; refine R.rt (RV.a Tryz.isAgg23 Tryz.sizeOf23 (RV.t .nil)) 3 ?_
   cases hq : okH (atH l delta id) <;> simp only [hq] at * <;> first | rfl | (simp [errA] at *)
  ·refine Run.skip ?_; refine R.sq ?_; refine R.rg ?_; refine R.lA 6 Tryz.isAgg23 Tryz.sizeOf23 ?_; refine R.st Tryz.sizeOf23 ?_; refine R.as ?_; refine R.nl ?_; refine R.hs (e' := [(6, _), (7, _)]) ?_; refine R.rt (RV.a Tryz.isAgg23 Tryz.sizeOf23 (RV.t .nil)) 3 ?_
   cases hq : okH (atH l delta id) <;> simp only [hq] at * <;> first | rfl | (simp [errA] at *)
theorem refNull_spec {g : Gl} {D : Dict} {M : MList} (id : Int) : Gives Tryz.prog g 41 [.int .i64 id] D M (.agg (Ht.cells (nullH id)).toArray) := by
  refine Gives.enter Tryz.func41 rfl Tryz.ntmps41 ?_; refine R.sq ?_; refine R.rg ?_; refine R.alA Tryz.zeroValue23 (fun zb1 hzb1 => ?_); refine R.nl ?_; refine R.hs (e' := [(0, _), (2, _)]) ?_; refine R.sq ?_; refine R.rg ?_; refine R.mv ?_; refine R.bd Tryz.zeroValue23 places23 ?_; refine R.st Tryz.sizeOf23 ?_; refine R.nl ?_; refine R.hs (e' := [(2, _)]) ?_; exact R.rt (RV.a Tryz.isAgg23 Tryz.sizeOf23 .nil) 1 rfl
theorem zero_spec {g : Gl} {D : Dict} {M : MList} (id : Int) : Gives Tryz.prog g 22 [.int .i64 id] D M (.agg (Ht.cells ⟨false, 0, 0, 0, 0, id⟩).toArray) := by
  refine Gives.enter Tryz.func22 rfl Tryz.ntmps22 ?_; refine R.sq ?_; refine R.rg ?_; refine R.alA Tryz.zeroValue23 (fun zb1 hzb1 => ?_); refine R.nl ?_; refine R.hs (e' := [(0, _), (2, _)]) ?_; refine R.sq ?_; refine R.rg ?_; refine R.mv ?_; refine R.bd Tryz.zeroValue23 places23 ?_; refine R.st Tryz.sizeOf23 ?_; refine R.nl ?_; refine R.hs (e' := [(2, _)]) ?_; exact R.rt (RV.a Tryz.isAgg23 Tryz.sizeOf23 .nil) 1 rfl
end Go.Proofs.YtgdpjpmjcpieiaaGreat

/- Heights: which is less, by the document's answer and by the program. No condition. -/
namespace Go.Proofs.YtgdpjpmjcpieiaaGreat
open Go
set_option linter.unusedVariables false
set_option linter.unusedSimpArgs false
set_option maxRecDepth 100000
set_option maxHeartbeats 0
theorem orI_drop {xs : List Int} {i : Nat} {x : Int} (h : xs[i]? = some x) : orI (xs.drop i) = if x = 0 then orI (xs.drop (i + 1)) else x := by
  have hlt : i < xs.length := by
    rcases Nat.lt_or_ge i xs.length with h1 | h1
    · exact h1
    · rw [List.getElem?_eq_none h1] at h; cases h
  rw [List.drop_eq_getElem_cons hlt, orI]
  rw [List.getElem?_eq_getElem hlt] at h
  injection h with h
  rw [h]
theorem or_spec {g : Gl} {D : Dict} {M : MList} {v : Value} (xs : List Int) (hn : xs.length ≤ 100) (h : Src D M 1 v xs.length (ints xs)) : Gives Tryz.prog g 136 [v] D M (.int .i64 (orI xs)) := by
  obtain ⟨_, A, c, rfl, _⟩ := id h
  refine Gives.enter Tryz.func136 rfl Tryz.ntmps136 ?_; refine R.sq ?_; refine R.rg ?_; refine R.as ?_; refine R.nl ?_; refine R.hs (e' := [(0, _)]) ?_; refine R.sq ?_; refine R.rg ?_; refine R.as ?_; refine R.nl ?_; refine R.hs (e' := [(0, _), (3, _)]) ?_; refine R.sq ?_; refine R.sq ?_; refine R.rg ?_; refine R.mv ?_; refine R.ln Tryz.runUnderlying56 ?_; refine R.mv ?_; refine R.nl ?_; refine R.hs (e' := [(3, _), (6, _), (7, _), (8, _)]) ?_; refine Run.block ?_; refine Run.loop (ι := Nat) [(3, _), (6, _), (7, _)] (fun i => [(8, .int .i64 (i : Int))]) (fun _ => D) (fun _ => M) (fun i => i ≤ xs.length ∧ orI (xs.drop i) = orI xs) (fun i => xs.length - i) (0) (by repeat (first | exact trivial | refine ⟨rfl, ?_⟩)) ?h0 (by repeat (first | exact trivial | refine ⟨rfl, ?_⟩)) (fun w hs => hs) ?_
  case h0 => exact ⟨Nat.zero_le _, rfl⟩
  rintro i ⟨hi, hpre⟩; refine R.sq ?_; refine R.rg ?_; refine R.cm ?_; refine R.nl ?_; refine R.hs (e' := [(3, _), (6, _), (7, _), (8, _), (9, _)]) ?_; refine R.sq ?_; refine R.cd (fun zc1 => ?_) (fun zc1 => ?_)
  ·
   have hlt : i < xs.length := by simp at zc1; omega
   obtain ⟨x, hgx⟩ : ∃ x, xs[i]? = some x := ⟨xs[i], List.getElem?_eq_getElem hlt⟩
   obtain ⟨b1, o1, hI1, hc1⟩ := h.at (ints_flat xs) (fun _ => rfl) hgx
   refine Run.skip ?_; refine R.sq ?_; refine Run.block ?_; refine R.sq ?_; refine R.rg ?_; refine R.ix (hI1) Tryz.runUnderlying56 Tryz.sizeOf3 ?_; refine R.ldD Tryz.isAgg3 ?_; refine R.as ?_; refine R.nl ?_; refine R.hs (e' := [(3, _), (5, _), (6, _), (7, _), (8, _)]) ?_; refine R.sq ?_; refine R.rg ?_; refine R.mv ?_; refine R.mv ?_; refine R.cm ?_; refine R.nl ?_; refine R.hs (e' := [(3, _), (5, _), (6, _), (7, _), (8, _), (14, _)]) ?_; refine R.cd (fun zc2 => ?_) (fun zc2 => ?_)
   ·
    have hx0 : orI xs = x := by rw [← hpre, orI_drop hgx, if_neg (by simpa using zc2)]
    refine R.sq ?_; refine R.rg ?_; refine R.mv ?_; refine R.as ?_; refine R.nl ?_; refine R.hs (e' := [(2, _)]) ?_; refine R.rt (RV.t .nil) 0 (congrArg (Value.int .i64) ?_)
    simp_all
   ·
    have hx0 : x = 0 := by simpa using zc2
    refine Run.skip ?_; refine Run.endBlock ?_; refine R.rg ?_; refine R.ad ?_; refine R.mv ?_; refine R.nl ?_; refine R.hs (e' := [(3, _), (6, _), (7, _), (8, _)]) ?_; exact Run.again (i + 1) ⟨by omega, by rw [← hpre, orI_drop hgx, if_pos hx0]⟩ (by omega) ⟨rfl, by repeat (first | exact trivial | refine ⟨rfl, ?_⟩)⟩ (fun w hs => hs)
  ·
   have hge : i = xs.length := by simp at zc1; omega
   have hz : orI xs = 0 := by rw [← hpre, hge, List.drop_length]; rfl
   refine Run.exit rfl ?_; refine R.sq ?_; refine R.rg ?_; refine R.mv ?_; refine R.as ?_; refine R.nl ?_; refine R.hs (e' := [(2, _)]) ?_; refine R.rt (RV.t .nil) 0 (congrArg (Value.int .i64) ?_)
   simp_all
theorem orI3 (a b c : Int) : orI [a, b, c] = if a = 0 then (if b = 0 then c else b) else a := by simp only [orI]; grind
theorem ord_spec {g : Gl} {D : Dict} {M : MList} (a b : Lv) : Gives Tryz.prog g 137 [.agg (Lv.cells a).toArray, .agg (Lv.cells b).toArray] D M (.int .i64 (ordL a b)) := by
  refine Gives.enter Tryz.func137 rfl Tryz.ntmps137 ?_; refine R.sq ?_; refine R.rg ?_; refine R.bxA (fun zb1 hzb1 => ?_); refine R.bxA (fun zb2 hzb2 => ?_); refine R.as ?_; refine R.nl ?_; refine R.hs (e' := [(2, _), (3, _)]) ?_; refine R.sq ?_; refine Run.drawC Grow.eq 14 [(2, _), (3, _)] mix (by kernel_rfl) (by repeat (first | exact trivial | refine ⟨rfl, ?_⟩)) ?_; apply TC.val []; exact rfl; kernel_rfl
  ·rintro _ rfl ; refine R.fa Tryz.runUnderlying28 Tryz.sizeOf3 ?_; refine R.nl ?_; exact Run.loc rfl rfl rfl
  apply TC.val [0]; exact rfl; kernel_rfl
  ·rintro _ rfl _ rfl; refine R.ld Tryz.isAgg3 ?_; refine R.nl ?_; exact Run.loc rfl rfl rfl
  apply TC.val []; exact rfl; kernel_rfl
  ·rintro _ rfl ; refine R.fa Tryz.runUnderlying28 Tryz.sizeOf3 ?_; refine R.nl ?_; exact Run.loc rfl rfl rfl
  apply TC.val [0]; exact rfl; kernel_rfl
  ·rintro _ rfl _ rfl; refine R.ld Tryz.isAgg3 ?_; refine R.nl ?_; exact Run.loc rfl rfl rfl
  apply TC.val [2, 0]; exact rfl; kernel_rfl
  ·rintro _ rfl _ rfl _ rfl; refine R.cg Tryz.call121 (cmp_spec _ _) ?_; refine R.nl ?_; exact Run.loc rfl rfl rfl
  apply TC.val []; exact rfl; kernel_rfl
  ·rintro _ rfl ; refine R.fa Tryz.runUnderlying28 Tryz.sizeOf3 ?_; refine R.nl ?_; exact Run.loc rfl rfl rfl
  apply TC.val [0]; exact rfl; kernel_rfl
  ·rintro _ rfl _ rfl; refine R.ld Tryz.isAgg3 ?_; refine R.nl ?_; exact Run.loc rfl rfl rfl
  apply TC.val []; exact rfl; kernel_rfl
  ·rintro _ rfl ; refine R.fa Tryz.runUnderlying28 Tryz.sizeOf3 ?_; refine R.nl ?_; exact Run.loc rfl rfl rfl
  apply TC.val [0]; exact rfl; kernel_rfl
  ·rintro _ rfl _ rfl; refine R.ld Tryz.isAgg3 ?_; refine R.nl ?_; exact Run.loc rfl rfl rfl
  apply TC.val [2, 0]; exact rfl; kernel_rfl
  ·rintro _ rfl _ rfl _ rfl; refine R.cg Tryz.call121 (cmp_spec _ _) ?_; refine R.nl ?_; exact Run.loc rfl rfl rfl
  apply TC.val []; exact rfl; kernel_rfl
  ·rintro _ rfl ; refine R.fa Tryz.runUnderlying28 Tryz.sizeOf3 ?_; refine R.nl ?_; exact Run.loc rfl rfl rfl
  apply TC.val [0]; exact rfl; kernel_rfl
  ·rintro _ rfl _ rfl; refine R.ld Tryz.isAgg3 ?_; refine R.nl ?_; exact Run.loc rfl rfl rfl
  apply TC.val []; exact rfl; kernel_rfl
  ·rintro _ rfl ; refine R.fa Tryz.runUnderlying28 Tryz.sizeOf3 ?_; refine R.nl ?_; exact Run.loc rfl rfl rfl
  apply TC.val [0]; exact rfl; kernel_rfl
  ·rintro _ rfl _ rfl; refine R.ld Tryz.isAgg3 ?_; refine R.nl ?_; exact Run.loc rfl rfl rfl
  refine TC.fin (by rfl) ?_; rintro _ rfl _ rfl _ rfl _ rfl _ rfl _ rfl _ rfl _ rfl _ rfl _ rfl _ rfl _ rfl _ rfl _ rfl _ rfl; refine R.cg Tryz.call121 (cmp_spec _ _) ?_; refine R.bs zc3 Tryz.runUnderlying56 Tryz.sizeOf3 Tryz.zeroValue3 (fun zb18 hzb18 => ?_); refine R.cg Tryz.call136 (or_spec [_, _, _] (Nat.le_of_ble_eq_true rfl) (Src.lit (.head _) rfl)) ?_; refine R.as ?_; refine R.nl ?_; refine R.hs (e' := [(4, _)]) ?_; exact R.rt (RV.t .nil) 3 rfl
theorem less_spec {g : Gl} {D : Dict} {M : MList} (a b : Ht) : Gives Tryz.prog g 116 [.agg (Ht.cells a).toArray, .agg (Ht.cells b).toArray] D M (.bool (lessH a b)) := by
  refine Gives.enter Tryz.func116 rfl Tryz.ntmps116 ?_; refine R.sq ?_; refine R.rg ?_; refine R.bxA (fun zb1 hzb1 => ?_); refine R.bxA (fun zb2 hzb2 => ?_); refine R.as ?_; refine R.nl ?_; refine R.hs (e' := [(2, _), (3, _)]) ?_; refine R.sq ?_
  rcases Bool.eq_false_or_eq_true (toldH a) with zg3 | zg3
  ·
   rcases Bool.eq_false_or_eq_true (toldH b) with zg4 | zg4
   ·refine Run.drawC Grow.eq 21 [(2, _), (3, _)] mix (by kernel_rfl) (by repeat (first | exact trivial | refine ⟨rfl, ?_⟩)) ?_; apply TC.val []; exact rfl; kernel_rfl
    ·rintro _ rfl ; refine R.lA 6 Tryz.isAgg23 Tryz.sizeOf23 ?_; refine R.nl ?_; exact Run.loc rfl rfl rfl
    apply TC.val [0]; exact rfl; kernel_rfl
    ·rintro _ rfl _ rfl; refine R.cg Tryz.call127 (known_spec _) ?_; refine R.nl ?_; exact Run.loc rfl rfl rfl
    apply TC.val [0]; exact rfl; kernel_rfl
    ·rintro _ rfl _ rfl; refine R.mv ?_; refine R.nl ?_; exact Run.loc rfl rfl rfl
    apply TC.val [0]; exact rfl; kernel_rfl
    ·rintro _ rfl _ rfl; refine R.gY (zg3) ?_; refine R.lA 6 Tryz.isAgg23 Tryz.sizeOf23 ?_; refine R.nl ?_; exact Run.loc rfl rfl rfl
    apply TC.val [1, 0]; exact rfl; kernel_rfl
    ·rintro _ rfl _ rfl _ rfl; refine R.gY (zg3) ?_; refine R.cg Tryz.call127 (known_spec _) ?_; refine R.nl ?_; exact Run.loc rfl rfl rfl
    apply TC.val [2, 0]; exact rfl; kernel_rfl
    ·rintro _ rfl _ rfl _ rfl; refine R.pT (zg3) ?_; refine R.nl ?_; exact Run.loc rfl rfl rfl
    apply TC.val [0]; exact rfl; kernel_rfl
    ·rintro _ rfl _ rfl; refine R.mv ?_; refine R.nl ?_; exact Run.loc rfl rfl rfl
    apply TC.val [0]; exact rfl; kernel_rfl
    ·rintro _ rfl _ rfl; refine R.gY (zg4) ?_; refine R.lA 6 Tryz.isAgg23 Tryz.sizeOf23 ?_; refine R.nl ?_; exact Run.loc rfl rfl rfl
    apply TC.val [1, 0]; exact rfl; kernel_rfl
    ·rintro _ rfl _ rfl _ rfl; refine R.gY (zg4) ?_; refine R.cg Tryz.call102 (lvl_spec _) ?_; refine R.nl ?_; exact Run.loc rfl rfl rfl
    apply TC.val [2]; exact rfl; kernel_rfl
    ·rintro _ rfl _ rfl; refine R.gY (zg4) ?_; refine R.lA 6 Tryz.isAgg23 Tryz.sizeOf23 ?_; refine R.nl ?_; exact Run.loc rfl rfl rfl
    apply TC.val [3, 0]; exact rfl; kernel_rfl
    ·rintro _ rfl _ rfl _ rfl; refine R.gY (zg4) ?_; refine R.cg Tryz.call102 (lvl_spec _) ?_; refine R.nl ?_; exact Run.loc rfl rfl rfl
    apply TC.val [4, 2, 0]; exact rfl; kernel_rfl
    ·rintro _ rfl _ rfl _ rfl _ rfl; refine R.gY (zg4) ?_; refine R.cg Tryz.call137 (ord_spec _ _) ?_; refine R.nl ?_; exact Run.loc rfl rfl rfl
    apply TC.val [5]; exact rfl; kernel_rfl
    ·rintro _ rfl _ rfl; refine R.gY (zg4) ?_; refine R.fa Tryz.runUnderlying23 Tryz.sizeOf3 ?_; refine R.nl ?_; exact Run.loc rfl rfl rfl
    apply TC.val [6, 0]; exact rfl; kernel_rfl
    ·rintro _ rfl _ rfl _ rfl; refine R.gY (zg4) ?_; refine R.ld Tryz.isAgg3 ?_; refine R.nl ?_; exact Run.loc rfl rfl rfl
    apply TC.val [7]; exact rfl; kernel_rfl
    ·rintro _ rfl _ rfl; refine R.gY (zg4) ?_; refine R.fa Tryz.runUnderlying23 Tryz.sizeOf3 ?_; refine R.nl ?_; exact Run.loc rfl rfl rfl
    apply TC.val [8, 0]; exact rfl; kernel_rfl
    ·rintro _ rfl _ rfl _ rfl; refine R.gY (zg4) ?_; refine R.ld Tryz.isAgg3 ?_; refine R.nl ?_; exact Run.loc rfl rfl rfl
    apply TC.val [9, 2, 0]; exact rfl; kernel_rfl
    ·rintro _ rfl _ rfl _ rfl _ rfl; refine R.gY (zg4) ?_; refine R.cg Tryz.call121 (cmp_spec _ _) ?_; refine R.nl ?_; exact Run.loc rfl rfl rfl
    apply TC.val [10]; exact rfl; kernel_rfl
    ·rintro _ rfl _ rfl; refine R.gY (zg4) ?_; refine R.fa Tryz.runUnderlying23 Tryz.sizeOf3 ?_; refine R.nl ?_; exact Run.loc rfl rfl rfl
    apply TC.val [11, 0]; exact rfl; kernel_rfl
    ·rintro _ rfl _ rfl _ rfl; refine R.gY (zg4) ?_; refine R.ld Tryz.isAgg3 ?_; refine R.nl ?_; exact Run.loc rfl rfl rfl
    apply TC.val [12]; exact rfl; kernel_rfl
    ·rintro _ rfl _ rfl; refine R.gY (zg4) ?_; refine R.fa Tryz.runUnderlying23 Tryz.sizeOf3 ?_; refine R.nl ?_; exact Run.loc rfl rfl rfl
    apply TC.val [13, 0]; exact rfl; kernel_rfl
    ·rintro _ rfl _ rfl _ rfl; refine R.gY (zg4) ?_; refine R.ld Tryz.isAgg3 ?_; refine R.nl ?_; exact Run.loc rfl rfl rfl
    refine TC.fin (by rfl) ?_; rintro _ rfl _ rfl _ rfl _ rfl _ rfl _ rfl _ rfl _ rfl _ rfl _ rfl _ rfl _ rfl _ rfl _ rfl _ rfl _ rfl _ rfl _ rfl _ rfl _ rfl _ rfl _ rfl; refine R.gY (zg4) ?_; refine R.cg Tryz.call121 (cmp_spec _ _) ?_; refine R.gY (zg4) ?_; refine R.bs zc3 Tryz.runUnderlying56 Tryz.sizeOf3 Tryz.zeroValue3 (fun zb27 hzb27 => ?_); refine R.gY (zg4) ?_; refine R.cg Tryz.call136 (or_spec [_, _, _] (Nat.le_of_ble_eq_true rfl) (Src.lit (.head _) rfl)) ?_; refine R.gY (zg4) ?_; refine R.cm ?_; refine R.pT (zg4) ?_; refine R.as ?_; refine R.nl ?_; refine R.hs (e' := [(4, _)]) ?_; refine R.rt (RV.t .nil) 3 (congrArg Value.bool ?_)
    simp_all [lessH]
   ·refine Run.drawC Grow.eq 21 [(2, _), (3, _)] mix (by kernel_rfl) (by repeat (first | exact trivial | refine ⟨rfl, ?_⟩)) ?_; apply TC.val []; exact rfl; kernel_rfl
    ·rintro _ rfl ; refine R.lA 6 Tryz.isAgg23 Tryz.sizeOf23 ?_; refine R.nl ?_; exact Run.loc rfl rfl rfl
    apply TC.val [0]; exact rfl; kernel_rfl
    ·rintro _ rfl _ rfl; refine R.cg Tryz.call127 (known_spec _) ?_; refine R.nl ?_; exact Run.loc rfl rfl rfl
    apply TC.val [0]; exact rfl; kernel_rfl
    ·rintro _ rfl _ rfl; refine R.mv ?_; refine R.nl ?_; exact Run.loc rfl rfl rfl
    apply TC.val [0]; exact rfl; kernel_rfl
    ·rintro _ rfl _ rfl; refine R.gY (zg3) ?_; refine R.lA 6 Tryz.isAgg23 Tryz.sizeOf23 ?_; refine R.nl ?_; exact Run.loc rfl rfl rfl
    apply TC.val [1, 0]; exact rfl; kernel_rfl
    ·rintro _ rfl _ rfl _ rfl; refine R.gY (zg3) ?_; refine R.cg Tryz.call127 (known_spec _) ?_; refine R.nl ?_; exact Run.loc rfl rfl rfl
    apply TC.val [2, 0]; exact rfl; kernel_rfl
    ·rintro _ rfl _ rfl _ rfl; refine R.pT (zg3) ?_; refine R.nl ?_; exact Run.loc rfl rfl rfl
    apply TC.val [0]; exact rfl; kernel_rfl
    ·rintro _ rfl _ rfl; refine R.mv ?_; refine R.nl ?_; exact Run.loc rfl rfl rfl
    apply TC.val [0]; exact rfl; kernel_rfl
    ·rintro _ rfl _ rfl; refine R.gF (zg4) ?_; refine R.nl ?_; exact Run.loc rfl rfl rfl
    apply TC.val [1, 0]; exact rfl; kernel_rfl
    ·rintro _ rfl _ rfl _ rfl; refine R.gF (zg4) ?_; refine R.nl ?_; exact Run.loc rfl rfl rfl
    apply TC.val [2]; exact rfl; kernel_rfl
    ·rintro _ rfl _ rfl; refine R.gF (zg4) ?_; refine R.nl ?_; exact Run.loc rfl rfl rfl
    apply TC.val [3, 0]; exact rfl; kernel_rfl
    ·rintro _ rfl _ rfl _ rfl; refine R.gF (zg4) ?_; refine R.nl ?_; exact Run.loc rfl rfl rfl
    apply TC.val [4, 2, 0]; exact rfl; kernel_rfl
    ·rintro _ rfl _ rfl _ rfl _ rfl; refine R.gF (zg4) ?_; refine R.nl ?_; exact Run.loc rfl rfl rfl
    apply TC.val [5]; exact rfl; kernel_rfl
    ·rintro _ rfl _ rfl; refine R.gF (zg4) ?_; refine R.nl ?_; exact Run.loc rfl rfl rfl
    apply TC.val [6, 0]; exact rfl; kernel_rfl
    ·rintro _ rfl _ rfl _ rfl; refine R.gF (zg4) ?_; refine R.nl ?_; exact Run.loc rfl rfl rfl
    apply TC.val [7]; exact rfl; kernel_rfl
    ·rintro _ rfl _ rfl; refine R.gF (zg4) ?_; refine R.nl ?_; exact Run.loc rfl rfl rfl
    apply TC.val [8, 0]; exact rfl; kernel_rfl
    ·rintro _ rfl _ rfl _ rfl; refine R.gF (zg4) ?_; refine R.nl ?_; exact Run.loc rfl rfl rfl
    apply TC.val [9, 2, 0]; exact rfl; kernel_rfl
    ·rintro _ rfl _ rfl _ rfl _ rfl; refine R.gF (zg4) ?_; refine R.nl ?_; exact Run.loc rfl rfl rfl
    apply TC.val [10]; exact rfl; kernel_rfl
    ·rintro _ rfl _ rfl; refine R.gF (zg4) ?_; refine R.nl ?_; exact Run.loc rfl rfl rfl
    apply TC.val [11, 0]; exact rfl; kernel_rfl
    ·rintro _ rfl _ rfl _ rfl; refine R.gF (zg4) ?_; refine R.nl ?_; exact Run.loc rfl rfl rfl
    apply TC.val [12]; exact rfl; kernel_rfl
    ·rintro _ rfl _ rfl; refine R.gF (zg4) ?_; refine R.nl ?_; exact Run.loc rfl rfl rfl
    apply TC.val [13, 0]; exact rfl; kernel_rfl
    ·rintro _ rfl _ rfl _ rfl; refine R.gF (zg4) ?_; refine R.nl ?_; exact Run.loc rfl rfl rfl
    refine TC.fin (by rfl) ?_; rintro _ rfl _ rfl _ rfl _ rfl _ rfl _ rfl _ rfl _ rfl _ rfl _ rfl _ rfl _ rfl _ rfl _ rfl _ rfl _ rfl _ rfl _ rfl _ rfl _ rfl _ rfl _ rfl; refine R.gF (zg4) ?_; refine R.gF (zg4) ?_; refine R.gF (zg4) ?_; refine R.gF (zg4) ?_; refine R.pF (zg4) ?_; refine R.as ?_; refine R.nl ?_; refine R.hs (e' := [(4, _)]) ?_; refine R.rt (RV.t .nil) 2 (congrArg Value.bool ?_)
    simp_all [lessH]
  ·refine Run.drawC Grow.eq 21 [(2, _), (3, _)] mix (by kernel_rfl) (by repeat (first | exact trivial | refine ⟨rfl, ?_⟩)) ?_; apply TC.val []; exact rfl; kernel_rfl
   ·rintro _ rfl ; refine R.lA 6 Tryz.isAgg23 Tryz.sizeOf23 ?_; refine R.nl ?_; exact Run.loc rfl rfl rfl
   apply TC.val [0]; exact rfl; kernel_rfl
   ·rintro _ rfl _ rfl; refine R.cg Tryz.call127 (known_spec _) ?_; refine R.nl ?_; exact Run.loc rfl rfl rfl
   apply TC.val [0]; exact rfl; kernel_rfl
   ·rintro _ rfl _ rfl; refine R.mv ?_; refine R.nl ?_; exact Run.loc rfl rfl rfl
   apply TC.val [0]; exact rfl; kernel_rfl
   ·rintro _ rfl _ rfl; refine R.gF (zg3) ?_; refine R.nl ?_; exact Run.loc rfl rfl rfl
   apply TC.val [1, 0]; exact rfl; kernel_rfl
   ·rintro _ rfl _ rfl _ rfl; refine R.gF (zg3) ?_; refine R.nl ?_; exact Run.loc rfl rfl rfl
   apply TC.val [2, 0]; exact rfl; kernel_rfl
   ·rintro _ rfl _ rfl _ rfl; refine R.pF (zg3) ?_; refine R.nl ?_; exact Run.loc rfl rfl rfl
   apply TC.val [0]; exact rfl; kernel_rfl
   ·rintro _ rfl _ rfl; refine R.mv ?_; refine R.nl ?_; exact Run.loc rfl rfl rfl
   apply TC.val [0]; exact rfl; kernel_rfl
   ·rintro _ rfl _ rfl; refine R.gF (rfl) ?_; refine R.nl ?_; exact Run.loc rfl rfl rfl
   apply TC.val [1, 0]; exact rfl; kernel_rfl
   ·rintro _ rfl _ rfl _ rfl; refine R.gF (rfl) ?_; refine R.nl ?_; exact Run.loc rfl rfl rfl
   apply TC.val [2]; exact rfl; kernel_rfl
   ·rintro _ rfl _ rfl; refine R.gF (rfl) ?_; refine R.nl ?_; exact Run.loc rfl rfl rfl
   apply TC.val [3, 0]; exact rfl; kernel_rfl
   ·rintro _ rfl _ rfl _ rfl; refine R.gF (rfl) ?_; refine R.nl ?_; exact Run.loc rfl rfl rfl
   apply TC.val [4, 2, 0]; exact rfl; kernel_rfl
   ·rintro _ rfl _ rfl _ rfl _ rfl; refine R.gF (rfl) ?_; refine R.nl ?_; exact Run.loc rfl rfl rfl
   apply TC.val [5]; exact rfl; kernel_rfl
   ·rintro _ rfl _ rfl; refine R.gF (rfl) ?_; refine R.nl ?_; exact Run.loc rfl rfl rfl
   apply TC.val [6, 0]; exact rfl; kernel_rfl
   ·rintro _ rfl _ rfl _ rfl; refine R.gF (rfl) ?_; refine R.nl ?_; exact Run.loc rfl rfl rfl
   apply TC.val [7]; exact rfl; kernel_rfl
   ·rintro _ rfl _ rfl; refine R.gF (rfl) ?_; refine R.nl ?_; exact Run.loc rfl rfl rfl
   apply TC.val [8, 0]; exact rfl; kernel_rfl
   ·rintro _ rfl _ rfl _ rfl; refine R.gF (rfl) ?_; refine R.nl ?_; exact Run.loc rfl rfl rfl
   apply TC.val [9, 2, 0]; exact rfl; kernel_rfl
   ·rintro _ rfl _ rfl _ rfl _ rfl; refine R.gF (rfl) ?_; refine R.nl ?_; exact Run.loc rfl rfl rfl
   apply TC.val [10]; exact rfl; kernel_rfl
   ·rintro _ rfl _ rfl; refine R.gF (rfl) ?_; refine R.nl ?_; exact Run.loc rfl rfl rfl
   apply TC.val [11, 0]; exact rfl; kernel_rfl
   ·rintro _ rfl _ rfl _ rfl; refine R.gF (rfl) ?_; refine R.nl ?_; exact Run.loc rfl rfl rfl
   apply TC.val [12]; exact rfl; kernel_rfl
   ·rintro _ rfl _ rfl; refine R.gF (rfl) ?_; refine R.nl ?_; exact Run.loc rfl rfl rfl
   apply TC.val [13, 0]; exact rfl; kernel_rfl
   ·rintro _ rfl _ rfl _ rfl; refine R.gF (rfl) ?_; refine R.nl ?_; exact Run.loc rfl rfl rfl
   refine TC.fin (by rfl) ?_; rintro _ rfl _ rfl _ rfl _ rfl _ rfl _ rfl _ rfl _ rfl _ rfl _ rfl _ rfl _ rfl _ rfl _ rfl _ rfl _ rfl _ rfl _ rfl _ rfl _ rfl _ rfl _ rfl; refine R.gF (rfl) ?_; refine R.gF (rfl) ?_; refine R.gF (rfl) ?_; refine R.gF (rfl) ?_; refine R.pF (rfl) ?_; refine R.as ?_; refine R.nl ?_; refine R.hs (e' := [(4, _)]) ?_; refine R.rt (RV.t .nil) 2 (congrArg Value.bool ?_)
   simp_all [lessH]
end Go.Proofs.YtgdpjpmjcpieiaaGreat
