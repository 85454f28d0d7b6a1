/- Rows of one's own: cut, cleared. No condition. -/
import Derived.Test.YtgdpjpmjcpieiaaV3
namespace Go.Proofs.Ytgdpjpmjcpieiaa
open Go
set_option linter.unusedVariables false
set_option linter.unusedSimpArgs false
section
variable {P : Program} {n : Nat} {Q : Exit → Act → World → Prop} {g : Gl} {k : List It} {e : Env} {D : Dict} {M : MList}
  {all : Array Oper} {rest : List Oper} {dst : Option Nat} {ty : TypeId} {pos : String} {af : Array Edge}
/-- s[i:], i below the room -/
theorem R.cutLo {t el : TypeId} {x lo : Operand} {b o0 l c sz : Nat} {kd : IntKind} {j : Int} (i : Nat) (hu : ∀ w, (underlying t).run P w = .ok (.slice el) w) (hS : ∀ w, (sizeOf el).run P w = .ok sz w)
    (h : Run P n Q g (.ops all rest :: k) (e.put dst (.slice (some ⟨b, o0 + i * sz, none⟩) (l - i) (c - i))) D M)
    (hx : e.ev x = some (.slice (some ⟨b, o0, none⟩) l c) := by rfl) (hi : e.ev lo = some (.int kd j) := by rfl) (hj : j = (i : Int) := by first | rfl | omega | (dsimp only; omega) | (simp at *; omega)) (h1 : i ≤ l := by omega) (h2 : i < c := by omega) (hd : dstOk n dst = true := by rfl) :
    Run P n Q g (.ops all (⟨dst, .slice t x (some lo) none none, ty, pos, af, none⟩ :: rest) :: k) e D M := by
  subst hj
  refine Run.sliceLo hu hS hx hi h1 hd ?_
  rw [if_neg (by omega)]
  simpa [add_plain] using h
/-- s[:i] -/
theorem R.cutHi {t el : TypeId} {x hi : Operand} {A : Option Addr} {l c sz : Nat} {kd : IntKind} {j : Int} (i : Nat) (hu : ∀ w, (underlying t).run P w = .ok (.slice el) w) (hS : ∀ w, (sizeOf el).run P w = .ok sz w)
    (h : Run P n Q g (.ops all rest :: k) (e.put dst (.slice A i c)) D M)
    (hx : e.ev x = some (.slice A l c) := by rfl) (hi' : e.ev hi = some (.int kd j) := by rfl) (hj : j = (i : Int) := by first | rfl | omega | (dsimp only; omega) | (simp at *; omega)) (h1 : i ≤ c := by omega) (hd : dstOk n dst = true := by rfl) :
    Run P n Q g (.ops all (⟨dst, .slice t x none (some hi) none, ty, pos, af, none⟩ :: rest) :: k) e D M := by
  subst hj
  exact Run.sliceHi hu hS hx hi' h1 hd h
theorem one_reps {zc : List Value} (h : ∀ u ∈ zc, u.oneCell' = true) (m : Nat) : ∀ u ∈ reps m zc, u.oneCell' = true := by
  intro u hu
  simp only [reps, List.mem_flatten, List.mem_replicate] at hu
  obtain ⟨l, ⟨_, rfl⟩, hl⟩ := hu
  exact h u hl
/-- clear(s[i:]) of a row of one's own: what is ahead of i stays -/
theorem R.clr {α : Type} {sz : Nat} {cells : α → List Value} {T t : TypeId} {xs : List α} {q R : MList} {x : Operand} {b l c c' off : Nat} {z : Value} {zc : List Value} (i : Nat) (ho : OL sz cells T (.slice (some ⟨b, 0, none⟩) l c) xs q) (hc : ∀ x, (cells x).length = sz)
    (hu : ∀ w, (underlying t).run P w = .ok (.slice T) w) (hz : ∀ w, (zeroValue T).run P w = .ok z w) (hzc : zc.length = sz) (h0 : 0 < sz) (h1 : zc.all (·.oneCell') = true) (hi : i < xs.length) (hoff : off = i * sz)
    (h : ∀ q', OL sz cells T (.slice (some ⟨b, 0, none⟩) i c) (xs.take i) q' → Run P n Q g (.ops all rest :: k) (e.put dst (.tuple #[])) D (q' ++ R))
    (hx : e.ev x = some (.slice (some ⟨b, off, none⟩) (xs.length - i) c') := by rfl) (hzs : z.cells = zc.toArray := by rfl) (hd : dstOk n dst = true := by rfl) :
    Run P n Q g (.ops all (⟨dst, .call { callee := .builtin .clear, args := #[x], argTypes := #[t] }, ty, pos, af, none⟩ :: rest) :: k) e D (q ++ R) := by
  subst hoff
  rcases ho.2 with ⟨h1', _, _⟩ | ⟨b', cap, cur, e1, h2, h3, h4, h5, h6⟩
  · cases h1'
  · injection e1 with e1 e2 e3
    injection e1 with e1
    injection e1 with e4 _
    subst e4; subst e3; subst h2
    have hm : xs.length - i ≠ 0 := by omega
    have hmz : (xs.length - i) * zc.length ≠ 0 := by rw [hzc]; exact Nat.mul_ne_zero hm (by omega)
    have hle : xs.length * sz ≤ c * sz := Nat.mul_le_mul_right sz h3
    have hsum : i * sz + (xs.length - i) * sz = xs.length * sz := by rw [← Nat.add_mul]; congr 1; omega
    have hrl : (reps (xs.length - i) zc).length = (xs.length - i) * sz := by simp [reps, hzc]
    let cur' : Array Value := (cur.toList.take (i * sz + 0) ++ reps (xs.length - i) zc ++ cur.toList.drop (i * sz + 0 + (reps (xs.length - i) zc).length)).toArray
    refine Run.eff (fun v' D' M' => v' = .tuple #[] ∧ D' = D ∧ M' = [(b, Obj.cells cur' T (0, 0))] ++ R) hd (fun a he w hs => ?_) (fun v' D' M' ⟨g1, g2, g3⟩ => by
      subst g1; subst g2; subst g3
      refine h _ ⟨by rw [flat_len hc], .inr ⟨b, c, cur', by simp [Nat.min_eq_left (Nat.le_of_lt hi)], rfl, by simp; omega, h4, ?_, ?_⟩⟩
      · simp only [cur', List.size_toArray, List.length_append, List.length_take, List.length_drop, Array.length_toList, h5, hrl]; omega
      · have hl1 : (cur.toList.take (i * sz)).length = i * sz := by rw [List.length_take, Array.length_toList, h5]; omega
        have hl2 : (xs.take i).length = i := by rw [List.length_take]; omega
        simp only [cur', hl2, Nat.add_zero, List.append_assoc]
        rw [List.take_append, hl1, Nat.sub_self, List.take_zero, List.append_nil, List.take_take, Nat.min_self]
        have h7 : (xs.take i).flatMap cells = (xs.flatMap cells).take (i * sz) := by
          conv => rhs; rw [← List.take_append_drop i xs, List.flatMap_append]
          have := flat_len hc (xs.take i)
          rw [hl2] at this
          rw [List.take_left' this]
        rw [h7, ← h6, List.take_take, Nat.min_eq_left (by omega)])
    have hb := hs.mt (b, Obj.cells cur T (0, 0)) (by simp)
    have hst := run_storeCells_at P b (i * sz) T (reps (xs.length - i) zc) 0 cur w hb (by rw [hrl, h5]; omega) (one_reps (fun u hu => List.all_eq_true.1 h1 u hu) _)
    refine ⟨.tuple #[], w.setRow b cur', D, _, ?_, hs.mset (.here ..) rfl rfl rfl (Nat.le_refl _) (setRow_heap w b cur cur' T (0, 0) hb) (fun c hc => setRow_other _ _ _ hc), rfl, rfl, rfl⟩
    have hzr : Builtin.zeroCells z.cells (xs.length - i) = (reps (xs.length - i) zc).toArray := reps_eq (xs.length - i) z.cells zc hzs hmz ▸ (by unfold Builtin.zeroCells; rw [hzs]; simp)
    have hcl : (Builtin.clear_ #[t] ty #[.slice (some ⟨b, i * sz, none⟩) (xs.length - i) c']).run P w = .ok (.tuple #[]) (w.setRow b cur') := by
      obtain ⟨m, hm'⟩ : ∃ m, xs.length - i = m + 1 := ⟨xs.length - i - 1, by omega⟩
      rw [hm'] at hzr hst ⊢
      simp [Builtin.clear_, Sem.run_bind, hu, Result.andThen_ok, hz, hzr, hst, Sem.run_pure, cur', hm']
    simp [execOp, resolve, he.ev hx, Sem.run_bind, Sem.run_pure, invoke, builtin, hcl, Result.andThen_ok]
end
end Go.Proofs.Ytgdpjpmjcpieiaa
