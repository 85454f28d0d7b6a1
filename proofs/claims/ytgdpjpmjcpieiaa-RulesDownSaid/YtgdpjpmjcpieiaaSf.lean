/- slices.SortFunc at a row of one's own: the shelf's contract in the engine's words. No condition. -/
import Derived.Test.YtgdpjpmjcpieiaaRd
import Derived.Test.YtgdpjpmjcpieiaaV3
import Derived.Shelf.SlSortCmp.NoneTotal
namespace Go.Proofs.Ytgdpjpmjcpieiaa
open Go Go.Sort
set_option linter.unusedVariables false
set_option linter.unusedSimpArgs false
set_option maxRecDepth 100000
section
variable {α : Type} [Inhabited α] {k : Nat} {enc : α → List Value}
theorem flatK_flat (hk : ∀ x, (enc x).length = k) (xs : List α) : (flatK enc k xs.toArray).toList = xs.flatMap enc := by
  apply List.ext_getElem?
  intro t
  by_cases ht : t < xs.length * k
  · have k0 : 0 < k := by
      rcases Nat.eq_zero_or_pos k with h | h
      · subst h; simp at ht
      · exact h
    have h1 : t / k < xs.length := Nat.div_lt_of_lt_mul (by rw [Nat.mul_comm]; exact ht)
    have h2 : t % k < k := Nat.mod_lt _ k0
    have h3 := flat_at hk xs (t / k) (t % k) xs[t / k] (List.getElem?_eq_getElem h1) h2
    rw [Nat.div_add_mod'] at h3
    rw [h3, Array.getElem?_toList]
    simp [flatK, ht, h1, hk, h2]
  · rw [List.getElem?_eq_none (by simp; omega), List.getElem?_eq_none (by rw [flat_len hk]; omega)]
theorem holdsK_row (hk : ∀ x, (enc x).length = k) {w : World} {b : Nat} {cur : Array Value} {T : TypeId} {xs : List α} (hb : w.heap[b]? = some (.cells cur T (0, 0))) (ht : cur.toList.take (xs.length * k) = xs.flatMap enc) : HoldsK enc k w b 0 xs.toArray := by
  intro j hj
  have hj' : j < xs.length * k := by simpa using hj
  refine ⟨?_, by simp [World.frozen?, hb]⟩
  have h1 : (cur.toList.take (xs.length * k))[j]? = ((flatK enc k xs.toArray).toList)[j]? := by rw [ht, flatK_flat hk]
  rw [List.getElem?_take_of_lt hj', Array.getElem?_toList, Array.getElem?_toList] at h1
  simp only [World.cell?, hb, Nat.zero_add, Option.isSome_none, Bool.false_eq_true, if_false, h1]
  simp [hj']
theorem heap_sortK {w : World} {b n : Nat} {os : Array Obj} {cur : Array Value} {T : TypeId} (d : Array α) (hb : w.heap[b]? = some (.cells cur T (0, 0))) :
    (sortWorldK enc k w b 0 n d os).heap[b]? = some (.cells (putCells id 0 (flatK enc k d) cur) T (0, 0)) := by
  have hg : b < w.heap.size := (Array.getElem?_eq_some_iff.1 hb).1
  unfold sortWorldK putRowK
  rw [heap_grow_old _ _ (by simpa using hg)]
  simp [putRow, mapBlock, Sort.ahead, Array.getElem?_modify, hb, onCells]
theorem heap_sortK_other {w : World} {b n c : Nat} {os : Array Obj} (d : Array α) (hc : c < w.heap.size) (hne : c ≠ b) : (sortWorldK enc k w b 0 n d os).heap[c]? = w.heap[c]? := by
  unfold sortWorldK putRowK
  rw [heap_grow_old _ _ (by simpa using hc)]
  simp [putRow, mapBlock, Sort.ahead, Array.getElem?_modify, Ne.symm hne]
theorem take_putK (hk : ∀ x, (enc x).length = k) (cur : Array Value) (ys : List α) (h : ys.length * k ≤ cur.size) : (putCells id 0 (flatK enc k ys.toArray) cur).toList.take (ys.length * k) = ys.flatMap enc := by
  rw [← flatK_flat hk]
  apply List.ext_getElem?
  intro j
  by_cases hj : j < ys.length * k
  · rw [List.getElem?_take_of_lt hj, Array.getElem?_toList, Array.getElem?_toList]
    simp [putCells, hj, show j < cur.size by omega]
  · rw [List.getElem?_take_eq_none (by omega), List.getElem?_eq_none (by simp; omega)]
theorem perm_of {d d' : Array α} (h : PermIn 0 d.size d d') : d'.toList.Perm d.toList := by
  obtain ⟨h1, _, h2⟩ := h
  have e1 : d'.extract 0 d.size = d' := by rw [← h1]; simp
  have e2 : d.extract 0 d.size = d := by simp
  rw [e1, e2] at h2
  exact h2
theorem sorted_of {lt : α → α → Bool} {d : Array α} (h : SortedIn lt 0 d.size d) : d.toList.Pairwise (fun a b => lt b a = false) := by
  rw [List.pairwise_iff_getElem]
  intro i j hi hj hij
  have := h i j (Nat.zero_le _) hij (by simpa using hj)
  have hi' : i < d.size := by simpa using hi
  have hj' : j < d.size := by simpa using hj
  simpa [getElem!_pos d i hi', getElem!_pos d j hj'] using this
theorem sortF_spec {P : Program} {ρ : Shelf.Ren} {T : TypeId} (L : SlLaysF0.n6 P ρ) (aE : ∀ w, (isAgg (ρ.t 24)).run P w = .ok true w) (zE : ∀ w, (Go.sizeOf (ρ.t 24)).run P w = .ok k w) (hk : ∀ x, (enc x).length = k) (h1 : ∀ x, ∀ v ∈ enc x, v.oneCell' = true)
    (cf : α → α → Int) (hO : SWO (ltOf cf)) (f : FuncId) (cb : List Value) (eg : ∀ args w, (callFunc f args).run P w = .ok (.enter f args) w) {g : Gl} {D : Dict} {q Z : MList} {v : Value} {xs : List α} (ho : OL k enc T v xs q)
    (hcmp : ∀ g' D' x y, Le D D' → Gives P g' f ([.agg (enc x).toArray, .agg (enc y).toArray] ++ cb) D' [] (.int .i64 (cf x y))) (hsz : xs.length ≤ 1000000) :
    Spec P g (ρ.f 6) [v, .func (.func f) #[] cb.toArray] D (q ++ Z) (fun u D' M' => u = .tuple #[] ∧ D' = D ∧ ∃ ys q', OL k enc T v ys q' ∧ ys.Perm xs ∧ ys.Pairwise (fun a b => ltOf cf b a = false) ∧ M' = q' ++ Z) := by
  intro w hs
  rcases ho.2 with ⟨e1, e2, e3⟩ | ⟨b, cap, cur, e1, e2, e3, e4, e5, e6⟩
  · subst e1; subst e3
    have e2' : xs = [] := List.eq_nil_of_length_eq_zero e2
    subst e2'
    refine (AnyF.slices_SortFunc_none L none 0 (.func (.func f) #[] cb.toArray) w).mono fun e w' ⟨h2, h3⟩ => ?_
    subst h3
    exact ⟨_, D, Z, h2, hs, rfl, rfl, [], [], OL.nil, List.Perm.refl _, .nil, rfl⟩
  · subst e1; subst e2
    have hb := hs.mt (b, Obj.cells cur T (0, 0)) (by simp)
    have hblk : b < w.heap.size := (Array.getElem?_eq_some_iff.1 hb).1
    have hbD : D b = none := hs.dis (b, Obj.cells cur T (0, 0)) (by simp)
    have hbZ : ∀ p ∈ Z, p.1 ≠ b := by
      intro p hp he
      have := hs.nd
      simp only [List.cons_append, List.nil_append, List.map_cons, List.nodup_cons] at this
      exact this.1 (List.mem_map.2 ⟨p, hp, he⟩)
    have hC : CmpLays P f cb.toArray enc k cf b 0 xs.toArray.size w := by
      intro m os dk hdk x y
      have := (hcmp (glOf (sortWorldK enc k w b 0 m dk os)) (All (sortWorldK enc k w b 0 m dk os)) x y (fun c o hc => by
        have hne : c ≠ b := fun e => by rw [e, hbD] at hc; cases hc
        have hlt := hs.lt hc
        unfold All
        rw [heap_sortK_other dk hlt hne]; exact hs.imm c o hc)).grown
      have e9 : (#[Value.agg (enc x).toArray, Value.agg (enc y).toArray] ++ cb.toArray : Array Value) = ([Value.agg (enc x).toArray, Value.agg (enc y).toArray] ++ cb).toArray := by simp
      rw [e9]
      exact this
    have e9 : Value.slice (some ⟨b, 0, none⟩) xs.length cap = Value.slice (some ⟨b, 0, none⟩) xs.toArray.size cap := by simp
    have hcon := AnyQ.slices_SortFunc L k aE zE enc hk h1 cf hO f cb.toArray b 0 cap xs.toArray w eg hC (holdsK_row hk hb e6) hblk (by simp; omega)
    rw [e9]
    refine hcon.mono fun e w' ⟨h2, d', n', os', h3, h4, h5⟩ => ?_
    rw [← e9]
    have hp := perm_of h3
    have hl : d'.toList.length = xs.length := by simpa using hp.length_eq
    have hsd : SortedIn (ltOf cf) 0 d'.size d' := by
      have : d'.size = xs.toArray.size := h3.1
      rw [this]; exact h4
    have hd' : d' = d'.toList.toArray := by simp
    have hsize : d'.toList.length * k ≤ cur.size := by rw [hl, e5]; exact Nat.mul_le_mul_right _ e3
    refine ⟨_, D, [(b, Obj.cells (putCells id 0 (flatK enc k d'.toList.toArray) cur) T (0, 0))] ++ Z, h2, ?_, rfl, rfl, d'.toList, _, ⟨by rw [flat_len hk], .inr ⟨b, cap, _, by rw [hl], rfl, by rw [hl]; exact e3, e4, by simp [putCells, e5], take_putK hk cur d'.toList hsize⟩⟩, by simpa using hp, sorted_of hsd, rfl⟩
    rw [h5, hd']
    have hsz' : w.heap.size ≤ (sortWorldK enc k w b 0 n' d'.toList.toArray os').heap.size := by simp [sortWorldK, putRowK]
    refine ⟨hs.os, hs.out, hs.tape, fun c o hc => ?_, fun p hp => ?_, hs.nd, fun p hp => ?_, Nat.le_trans hs.drw (Nat.le_add_right _ _)⟩
    · rw [heap_sortK_other _ (hs.lt hc) (fun e => by rw [e, hbD] at hc; cases hc)]; exact hs.imm c o hc
    · rcases List.mem_cons.1 hp with rfl | hp
      · exact heap_sortK _ hb
      · rw [heap_sortK_other _ (hs.ltM (List.mem_cons_of_mem _ hp)) (hbZ p hp)]; exact hs.mt p (List.mem_cons_of_mem _ hp)
    · rcases List.mem_cons.1 hp with rfl | hp
      · exact hbD
      · exact hs.dis p (List.mem_cons_of_mem _ hp)
end
end Go.Proofs.Ytgdpjpmjcpieiaa
