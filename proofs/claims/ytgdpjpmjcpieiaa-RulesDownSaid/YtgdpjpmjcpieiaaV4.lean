/- Views: one's height, by its number. No condition. -/
import Derived.Test.YtgdpjpmjcpieiaaRuP2
namespace Go.Proofs.Ytgdpjpmjcpieiaa
open Go
set_option linter.unusedVariables false
set_option linter.unusedSimpArgs false
set_option maxRecDepth 100000
set_option maxHeartbeats 0
theorem getV_at {xs : List Vw} {id : Int} {i : Nat} {x : Vw} (hx : xs[i]? = some x) (hid : x.id = id) (hpre : ∀ j y, j < i → xs[j]? = some y → y.id ≠ id) : getV xs id = some x := by
  unfold getV
  have h1 : i < xs.length := by
    rcases Nat.lt_or_ge i xs.length with h | h
    · exact h
    · rw [List.getElem?_eq_none h] at hx; cases hx
  rw [List.getElem?_eq_getElem h1] at hx
  injection hx with hx
  rw [List.find?_eq_some_iff_getElem]
  refine ⟨by simpa using hid, i, h1, hx, fun j hj => ?_⟩
  have := hpre j _ hj (List.getElem?_eq_getElem (by omega))
  simpa using this
theorem getV_no {xs : List Vw} {id : Int} (hpre : ∀ j y, j < xs.length → xs[j]? = some y → y.id ≠ id) : getV xs id = none := by
  unfold getV
  rw [List.find?_eq_none]
  intro x hx
  obtain ⟨i, hi⟩ := List.getElem?_of_mem hx
  have h1 : i < xs.length := by
    rcases Nat.lt_or_ge i xs.length with h | h
    · exact h
    · rw [List.getElem?_eq_none h] at hi; cases hi
  simpa using hpre i x h1 hi
def getH (xs : List Vw) (id : Int) : Ht := ((getV xs id).map (·.h)).getD z0H
theorem get_spec {g : Gl} {D : Dict} {M : MList} {a : Value} {xs : List Vw} (id : Int) (ha : Vws D a xs) :
    Gives Try.prog g 22 [a, .int .i64 id] D M (.tuple #[.agg (Ht.cells (getH xs id)).toArray, .bool (getV xs id).isSome]) := by
  have hla := ha.form.choose_spec.choose_spec.2.2
  refine Gives.enter Try.func22 rfl Try.ntmps22 ?_
  refine R.sq ?_
  refine R.rg ?_
  refine R.alA Try.zeroValue23 (fun b4 hb4 => ?_)
  refine R.as ?_
  refine R.nl ?_
  refine R.hs (e' := [(0, _), (1, _), (4, _)]) ?_
  refine R.sq ?_
  refine R.sq ?_
  refine R.rg ?_
  refine R.mv ?_
  refine R.ll (ha) Try.runUnderlying24 ?_
  refine R.mv ?_
  refine R.nl ?_
  refine R.hs (e' := [(1, _), (4, _), (8, _), (9, _), (10, _)]) ?_
  refine Run.block ?_
  refine Run.loop (ι := Nat) [(1, _), (4, _), (8, _), (9, _)] (fun i => [(10, .int .i64 (i : Int))]) (fun _ => D) (fun _ => (b4, .cells (Ht.cells z0H).toArray 23 (0, 0)) :: M) (fun i => i ≤ xs.length ∧ ∀ j y, j < i → xs[j]? = some y → y.id ≠ id) (fun i => xs.length - i) (0) (by repeat (first | exact trivial | refine ⟨rfl, ?_⟩)) ?h0 (by repeat (first | exact trivial | refine ⟨rfl, ?_⟩)) (fun w hs => hs) ?_
  case h0 => exact ⟨Nat.zero_le _, fun j x hj => by omega⟩
  rintro i ⟨hi, hpre⟩
  refine R.sq ?_
  refine R.rg ?_
  refine R.cm ?_
  refine R.nl ?_
  refine R.hs (e' := [(1, _), (4, _), (8, _), (9, _), (10, _), (11, _)]) ?_
  refine R.sq ?_
  refine R.cd (fun zc2 => ?_) (fun zc2 => ?_)
  ·
    have hlt : i < xs.length := by simp at zc2; omega
    obtain ⟨x, hgx⟩ := get_of_lt hlt
    obtain ⟨b1, o1, hI1, hc1⟩ := ha.at Vw.len hgx
    refine Run.skip ?_
    refine R.sq ?_
    refine Run.block ?_
    refine R.sq ?_
    refine R.rg ?_
    refine R.ix (hI1) Try.runUnderlying24 Try.sizeOf36 ?_
    refine R.lAD 7 Try.isAgg36 Try.sizeOf36 ?_
    refine R.alA Try.zeroValue36 (fun zb3 hzb3 => ?_)
    refine R.st Try.sizeOf36 ?_
    refine R.nl ?_
    refine R.hs (e' := [(1, _), (4, _), (7, _), (8, _), (9, _), (10, _)]) ?_
    refine R.sq ?_
    refine R.rg ?_
    refine R.fa Try.runUnderlying36 Try.sizeOf3 ?_
    refine R.ld Try.isAgg3 ?_
    refine R.mv ?_
    refine R.cm ?_
    refine R.nl ?_
    refine R.hs (e' := [(1, _), (4, _), (7, _), (8, _), (9, _), (10, _), (17, _)]) ?_
    refine R.cd (fun zc4 => ?_) (fun zc4 => ?_)
    ·
      have hz : getV xs id = some x := getV_at hgx (by simpa using zc4) hpre
      refine R.sq ?_
      refine R.rg ?_
      refine R.fa Try.runUnderlying36 Try.sizeOf23 ?_
      refine R.lA 6 Try.isAgg23 Try.sizeOf23 ?_
      refine R.st Try.sizeOf23 ?_
      refine R.as ?_
      refine R.nl ?_
      refine R.hs (e' := [(4, _), (5, _)]) ?_
      refine R.rt (RV.a Try.isAgg23 Try.sizeOf23 (RV.t .nil)) 2 ?_
      simp only [getH, hz]; rfl
    ·
      have hr : x.id ≠ id := by simpa using zc4
      refine Run.skip ?_
      refine Run.endBlock ?_
      refine R.rg ?_
      refine R.ad ?_
      refine R.mv ?_
      refine R.nl ?_
      refine R.hs (e' := [(1, _), (4, _), (8, _), (9, _), (10, _)]) ?_
      exact Run.again (i + 1) ⟨by omega, fun j y hj hy => by rcases Nat.lt_or_ge j i with h | h; exact hpre j y h hy; rw [show j = i by omega, hgx] at hy; injection hy with hy; rw [← hy]; exact hr⟩ (by omega) ⟨rfl, by repeat (first | exact trivial | refine ⟨rfl, ?_⟩)⟩ (fun w hs => hs.drop 1)
  ·
    have hz : getV xs id = none := getV_no fun j x hj => hpre j x (by simp at zc2; omega)
    refine Run.exit rfl ?_
    refine R.sq ?_
    refine R.rg ?_
    refine R.bd Try.zeroValue23 places23 ?_
    refine R.st Try.sizeOf23 ?_
    refine R.as ?_
    refine R.nl ?_
    refine R.hs (e' := [(4, _), (5, _)]) ?_
    refine R.rt (RV.a Try.isAgg23 Try.sizeOf23 (RV.t .nil)) 1 ?_
    simp only [getH, hz]; rfl
end Go.Proofs.Ytgdpjpmjcpieiaa
