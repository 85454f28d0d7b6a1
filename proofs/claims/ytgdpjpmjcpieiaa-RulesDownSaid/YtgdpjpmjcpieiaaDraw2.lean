/- Statements whose order is open, with one effect among the operations that may stand in any order. No condition. -/
import Derived.Test.YtgdpjpmjcpieiaaDraw
namespace Go.Proofs.Ytgdpjpmjcpieiaa
open Go
set_option linter.unusedVariables false
set_option linter.unusedSimpArgs false
/-- what goes ahead of operation x, through others -/
def reachL (l : List Oper) : Nat → List Nat → List Nat
  | 0, acc => acc
  | p + 1, acc => reachL l p (if acc.any (fun q => dirE l q p) then p :: acc else acc)
theorem reachL_listed {l : List Oper} {listed : Array Bool} (hc : ∀ i, listed.getD i false = true → ∀ j, dirE l i j = true → listed.getD j false = true) : ∀ (p : Nat) (acc : List Nat), (∀ q ∈ acc, listed.getD q false = true) → ∀ q ∈ reachL l p acc, listed.getD q false = true
  | 0, acc, h => h
  | p + 1, acc, h => by
    refine reachL_listed hc p _ fun q hq => ?_
    split at hq
    · rename_i ha
      rcases List.mem_cons.1 hq with rfl | hq
      · obtain ⟨q', h1, h2⟩ := List.any_eq_true.1 ha
        exact hc q' (h q' h1) _ h2
      · exact h q hq
    · exact h q hq
/-- operation i never comes behind operation x -/
def ahead (l : List Oper) (x i : Nat) : Bool := (reachL l x [x]).any (Nat.beq i)
def draw2Ok (l : List Oper) (m n x : Nat) (base : List Nat) : Bool :=
  Nat.ble m l.length && Nat.blt x m &&
  ((List.range m).all fun i => match l[i]? with
    | none => false
    | some o => (Nat.beq i x || (match o.dst with
        | none => false
        | some d => Nat.blt d n && !(base.any (Nat.beq d)) && (List.range m).all fun j => Nat.beq i j || match dstE l j with
            | some d' => !(Nat.beq d d')
            | none => true)) &&
      (depsE l m o).all (fun j => Nat.blt j i && dirE l i j && !(Nat.beq j x)) && !isDefer o.op) &&
  (match l[x]? with
    | none => false
    | some o => match o.dst with
      | none => true
      | some _ => false) &&
  ((List.range (l.length - m)).all fun s => (List.range (m + s)).all fun j => nearE l (m + s) j) &&
  ((List.range l.length).all fun i => match l[i]? with
    | none => false
    | some o => o.after.toList.all fun e => !(Region.binds .any e) || Nat.blt e.on i)
section
variable {R : Dict → Dict → Prop} {P : Program} {n : Nat} {Q : Exit → Act → World → Prop} {g : Gl} {k : List It} {e : Env} {D : Dict} {M : MList}
structure Inv2 (R : Dict → Dict → Prop) (n : Nat) (g : Gl) (l : List Oper) (m x : Nat) (KE : MList → Prop) (base : Env) (D : Dict) (M : MList) (Fs : List Fct) (listed : Array Bool) (a : Act) (w : World) : Prop where
  defs : a.defers = []
  env : EnvOk n base a
  len : listed.size = l.length
  closed : ∀ i, listed.getD i false = true → ∀ j, dirE l i j = true → listed.getD j false = true
  ex : ∃ D' M', R D D' ∧ St g w D' M' ∧ (listed.getD x false = false → M' = M) ∧ (listed.getD x false = true → KE M') ∧
    ∀ i, i < m → i ≠ x → listed.getD i false = true → ∃ d v F, dstE l i = some d ∧ Fs[i]? = some F ∧ a.tmps[d]? = some v ∧ F v D'
def EffQ (R : Dict → Dict → Prop) (g : Gl) (D : Dict) (KE : MList → Prop) : Exit → Act → World → Prop := fun ex a w => ex = .normal ∧ a.defers = [] ∧ ∃ D' M', R D D' ∧ St g w D' M' ∧ KE M'
theorem Run.effd {D' : Dict} {KE : MList → Prop} {M' : MList} (hD : R D D') (hK : KE M') : Run P n (EffQ R g D KE) g [] e D' M' := fun a w he hd hs => ⟨rfl, hd, D', M', hD, hs, hK⟩
/-- operation i by itself, in whatever state it may meet -/
def Loc2 (R : Dict → Dict → Prop) (P : Program) (n : Nat) (g : Gl) (l : List Oper) (m x : Nat) (KE : MList → Prop) (base : Env) (D : Dict) (M : MList) (i : Nat) (Fs : List Fct) (F : Fct) : Prop :=
  match l[i]? with
  | none => True
  | some o => ∀ D' M', R D D' → (M' = M ∨ ahead l x i = false ∧ KE M') → ∃ L : List (Nat × Fct), (∀ p ∈ L, p ∈ (depsE l m o).map fun j => ((dstE l j).getD 0, Fs.getD j (fun _ _ => False))) ∧
      Wit L D' fun e => Run P n (if i = x then EffQ R g D' KE else LocQ R g D' M' (o.dst.getD 0) F) g [.ops l.toArray [o]] (e ++ base) D' M'
theorem first_anyG {l : List Oper} {m : Nat} {I : Array Bool → Act → World → Prop} (hIlen : ∀ {listed a w}, I listed a w → listed.size = l.length) (hIcl : ∀ {listed a w}, I listed a w → ∀ i, listed.getD i false = true → ∀ j, dirE l i j = true → listed.getD j false = true) (hm : m ≤ l.length) (hlt : ∀ i j, dirE l i j = true → j < i) (hs : ∀ s, m ≤ s → s < l.length → ∀ j, j < s → nearE l s j = true)
    (hstep : ∀ i, i < m → ∀ listed a w, I listed a w → i ∈ Region.ready .any l.toArray listed → wpOp P l.toArray Q i (fun a' w' => I (listed.setIfInBounds i true) a' w') a w)
    (hend : ∀ listed a w, I listed a w → (∀ i, i < m → listed.getD i false = true) → wpList P l.toArray Q (l.drop m) a w) :
    ∀ (r : Nat) (listed : Array Bool) (a : Act) (w : World), (todo l listed).length = r → (∀ i, m ≤ i → listed.getD i false = false) → I listed a w → wpAny P .any l.toArray Q r listed a w := by
  intro r
  induction r with
  | zero =>
    intro listed a w hr hno hi
    have hall : ∀ i, i < m → listed.getD i false = true := by
      intro i him
      cases hq : listed.getD i false with
      | true => rfl
      | false =>
        exfalso
        have : i ∈ todo l listed := by simp only [todo, List.mem_filter, List.mem_range, hq]; exact ⟨by omega, rfl⟩
        rw [List.eq_nil_of_length_eq_zero hr] at this; cases this
    have hiff : ∀ j, listed.getD j false = true ↔ j < m := by
      refine fun j => ⟨fun h => ?_, hall j⟩
      rcases Nat.lt_or_ge j m with h1 | h1
      · exact h1
      · rw [hno j h1] at h; cases h
    have hc := todo_first hm hiff
    exact tail_any hlt hs 0 m listed a w (by omega) (Nat.le_refl _) (hIlen hi) hiff (hend listed a w hi hall)
  | succ r ih =>
    intro listed a w hr hno hi
    by_cases hall : ∀ i, i < m → listed.getD i false = true
    · have hiff : ∀ j, listed.getD j false = true ↔ j < m := by
        refine fun j => ⟨fun h => ?_, hall j⟩
        rcases Nat.lt_or_ge j m with h1 | h1
        · exact h1
        · rw [hno j h1] at h; cases h
      have hc := todo_first hm hiff
      exact tail_any hlt hs (r + 1) m listed a w (by omega) (Nat.le_refl _) (hIlen hi) hiff (hend listed a w hi hall)
    · have hready : ∀ i, i ∈ Region.ready .any l.toArray listed → i < m ∧ listed.getD i false = false ∧ i < l.length := by
        intro i hir
        obtain ⟨h5, o, ho, _⟩ := mem_ready.1 hir
        have hlt' : i < l.length := by have := (Array.getElem?_eq_some_iff.1 ho).1; simpa using this
        refine ⟨?_, getD_false_of h5, hlt'⟩
        rcases Nat.lt_or_ge i m with h | h
        · exact h
        · exfalso
          exact hall fun j hj => near_listed (hIcl hi) (fun j hj => hs i h hlt' j hj) (ready_dir hir) _ j rfl (by omega)
      refine ⟨fun h0 => ?_, fun i hir => ?_⟩
      · exfalso
        exact hall fun i him => none_ready (hIlen hi) hlt h0 i (by omega)
      · obtain ⟨h1, h2, h3⟩ := hready i hir
        refine wpOp_mono (fun a' w' hi' => ih _ a' w' ?_ ?_ hi') (hstep i h1 listed a w hi hir)
        · have := todo_set (l := l) (listed := listed) (i := i) (by rw [(hIlen hi)]; exact h3) h3 h2
          omega
        · intro j hj
          rw [getD_set_ne false (by omega)]
          exact hno j hj
theorem Run.draw2 {id : Nat} {l : List Oper} (hG : Grow R) (m x : Nat) (KE : MList → Prop) (base : Env) (Fs : List Fct) (hmix : P.follows .mixedOrders = true) (hok : draw2Ok l m n x (base.map Prod.fst) = true) (hbase : e.Has base) (hFl : Fs.length = m)
    (hF : ∀ i, i < m → ∃ F, Fs[i]? = some F ∧ MonoF R F ∧ Loc2 R P n g l m x KE base D M i (Fs.take i) F)
    (hZ : ∀ D' M', R D D' → KE M' → ∃ L : List (Nat × Fct), (∀ p ∈ L, ∃ j, j < m ∧ j ≠ x ∧ p = ((dstE l j).getD 0, Fs.getD j (fun _ _ => False))) ∧ Wit L D' fun e' => Run P n Q g (.ops l.toArray (l.drop m) :: k) (e' ++ base) D' M') :
    Run P n Q g (.code (.region id l.toArray true) :: k) e D M := by
  intro a w he hd hst
  show (Code.region id l.toArray true).wp P (itp P Q k) a w
  simp only [draw2Ok, Bool.and_eq_true, List.all_eq_true, List.mem_range] at hok
  obtain ⟨⟨⟨⟨⟨hml, hxm⟩, hA⟩, hX⟩, hB⟩, hC⟩ := hok
  have hxm' : x < m := by simpa [Nat.blt_eq] using hxm
  have hml' : m ≤ l.length := Nat.le_of_ble_eq_true hml
  have hlt : ∀ i j, dirE l i j = true → j < i := by
    intro i j hij
    unfold dirE at hij
    split at hij
    · rename_i o ho
      simp only [List.any_eq_true, Bool.and_eq_true] at hij
      obtain ⟨ed, hed, hb, hj⟩ := hij
      have hil : i < l.length := by
        rcases Nat.lt_or_ge i l.length with h | h
        · exact h
        · rw [List.getElem?_eq_none h] at ho; cases ho
      have := hC i hil
      rw [ho] at this
      simp only [List.all_eq_true] at this
      have := this ed hed
      rw [hb] at this
      simp [Nat.blt_eq] at this
      rw [← Nat.eq_of_beq_eq_true hj]; exact this
    · cases hij
  have hs : ∀ s, m ≤ s → s < l.length → ∀ j, j < s → nearE l s j = true := by
    intro s h1 h2 j h3
    have := hB (s - m) (by omega) j (by omega)
    rwa [show m + (s - m) = s by omega] at this
  have hdep : ∀ i, i < m → ∃ o, l[i]? = some o ∧ ∀ j ∈ depsE l m o, j < i ∧ dirE l i j = true ∧ j ≠ x := by
    intro i him
    have h1 := hA i him
    cases ho : l[i]? with
    | none => rw [ho] at h1; cases h1
    | some o =>
      rw [ho] at h1
      simp only [Bool.and_eq_true] at h1
      obtain ⟨⟨h2, h3⟩, _⟩ := h1
      refine ⟨o, rfl, fun j hj => ?_⟩
      have := List.all_eq_true.1 h3 j hj
      simp only [Bool.and_eq_true, Nat.blt_eq, Bool.not_eq_true'] at this
      exact ⟨this.1.1, this.1.2, fun e => by rw [e, Nat.beq_refl] at this; cases this.2⟩
  have hdstA : ∀ i, i < m → i ≠ x → ∃ d, dstE l i = some d ∧ d < n ∧ (∀ q ∈ base, q.1 ≠ d) ∧ ∀ j, j < m → j ≠ i → ∀ d', dstE l j = some d' → d' ≠ d := by
    intro i him hix
    have h1 := hA i him
    cases ho : l[i]? with
    | none => rw [ho] at h1; cases h1
    | some o =>
      rw [ho] at h1
      simp only [Bool.and_eq_true, Bool.or_eq_true] at h1
      obtain ⟨⟨h2, _⟩, _⟩ := h1
      have h2 := h2.resolve_left (fun e => hix (Nat.eq_of_beq_eq_true e))
      cases hdst : o.dst with
      | none => rw [hdst] at h2; cases h2
      | some d =>
        rw [hdst] at h2
        simp only [Bool.and_eq_true, Nat.blt_eq, Bool.not_eq_true', List.all_eq_true, List.mem_range, Bool.or_eq_true] at h2
        obtain ⟨⟨h4, h5⟩, h6⟩ := h2
        refine ⟨d, by simp [dstE, ho, hdst], h4, ?_, ?_⟩
        · intro q hq he
          have : (base.map Prod.fst).any (Nat.beq d) = true := List.any_eq_true.2 ⟨q.1, List.mem_map.2 ⟨q, hq, rfl⟩, by rw [he]; exact Nat.beq_refl d⟩
          rw [this] at h5; cases h5
        · intro j hj hji d' hd' he
          have := (h6 j hj).resolve_left (fun e => hji (Nat.eq_of_beq_eq_true e).symm)
          rw [hd'] at this
          subst he
          simp at this
  have hxd : dstE l x = none := by
    unfold dstE
    split at hX
    · cases hX
    · rename_i o ho
      rw [ho]
      simp only
      split at hX
      · assumption
      · cases hX
  refine wp_region_any hmix ?_
  have htodo : (todo l (Array.replicate l.toArray.size false)).length = l.toArray.size := by
    have : todo l (Array.replicate l.toArray.size false) = List.range l.length := by
      rw [todo, List.filter_eq_self]
      intro j _
      by_cases hj : j < l.length <;> simp [Array.getElem?_replicate, hj]
    rw [this]; simp
  have hfl : ∀ j, (Array.replicate l.toArray.size false).getD j false = false := by
    intro j
    by_cases hj : j < l.length <;> simp [Array.getElem?_replicate, hj]
  refine first_anyG (I := Inv2 R n g l m x KE base D M Fs) (m := m) (fun h => h.len) (fun h => h.closed) hml' hlt hs ?_ ?_ l.toArray.size _ a _ htodo (fun i _ => hfl i) ⟨hd, he.has hbase, by simp, fun i hi => (by rw [hfl i] at hi; cases hi), D, M, hG.refl D, hst.drew _ (Nat.le_succ _), fun _ => rfl, fun h => (by rw [hfl x] at h; cases h), fun i _ _ hi => (by rw [hfl i] at hi; cases hi)⟩
  · intro i him listed a w hi hr
    obtain ⟨o, ho, hdp⟩ := hdep i him
    obtain ⟨F, hF1, hF2, hF3⟩ := hF i him
    obtain ⟨D', M', hD', hst', hM0, hKE, hex⟩ := hi.ex
    unfold Loc2 at hF3
    rw [ho] at hF3
    simp only at hF3
    have hdirs := ready_dir hr
    have hil : i < l.length := by
      rcases Nat.lt_or_ge i l.length with h | h
      · exact h
      · rw [List.getElem?_eq_none h] at ho; cases ho
    have hnl : listed.getD i false = false := getD_false_of (mem_ready.1 hr).1
    have hstate : M' = M ∨ ahead l x i = false ∧ KE M' := by
      cases hq : listed.getD x false with
      | false => exact .inl (hM0 hq)
      | true =>
        refine .inr ⟨?_, hKE hq⟩
        cases ha : ahead l x i with
        | false => rfl
        | true =>
          exfalso
          obtain ⟨q, h1, h2⟩ := List.any_eq_true.1 ha
          have := reachL_listed hi.closed x [x] (fun q hq' => by rw [List.mem_singleton.1 hq']; exact hq) q h1
          rw [← Nat.eq_of_beq_eq_true h2, hnl] at this; cases this
    obtain ⟨L0, hL0, hW0⟩ := hF3 D' M' hD' hstate
    obtain ⟨e', hrun, he'⟩ := hW0.use (a := a) (by
      intro p hp
      obtain ⟨j, hj, rfl⟩ := List.mem_map.1 (hL0 p hp)
      obtain ⟨hji, hje, hjx⟩ := hdp j hj
      obtain ⟨d', v, F', h1, h2, h3, h4⟩ := hex j (by omega) hjx (hdirs j hje)
      refine ⟨v, by rw [h1]; exact h3, ?_⟩
      have : (Fs.take i).getD j (fun _ _ => False) = F' := by
        rw [List.getD_eq_getElem?_getD, List.getElem?_take, if_pos hji, h2]; rfl
      show (Fs.take i).getD j (fun _ _ => False) v D'
      rw [this]; exact h4)
    have hrun' := hrun a w ⟨hi.env.size, fun t v ht => by
      rcases get_append ht with h | h
      · exact he' t v (get_mem h)
      · exact hi.env.at_ t v h⟩ hi.defs hst'
    have hsz : i < listed.size := by rw [hi.len]; exact hil
    have hclo : ∀ c, (listed.setIfInBounds i true).getD c false = true → ∀ j, dirE l c j = true → (listed.setIfInBounds i true).getD j false = true := by
      intro c hc j hj
      rw [getD_set hsz] at hc ⊢
      rcases hc with rfl | hc
      · exact .inr (hdirs j hj)
      · exact .inr (hi.closed c hc j hj)
    have fin : ∀ (PQ : Exit → Act → World → Prop), (∀ ex a w, PQ ex a w → ex = .normal) → wpList P l.toArray PQ [o] a w →
        (∀ a' w', PQ .normal a' w' → (∃ v, a'.tmps = (a.put o.dst v).tmps) → Inv2 R n g l m x KE base D M Fs (listed.setIfInBounds i true) a' w') →
        wpOp P l.toArray (itp P Q k) i (fun a' w' => Inv2 R n g l m x KE base D M Fs (listed.setIfInBounds i true) a' w') a w := by
      intro PQ hn hrun' hinv
      unfold wpOp
      have hg : l.toArray[i]? = some o := by simpa using ho
      rw [hg]
      simp only
      unfold wpList at hrun'
      split
      · rename_i hw
        rw [if_pos hw] at hrun'
        rcases hrun' with h1 | ⟨_, _, _, h1⟩
        · refine .inl ?_
          have h2 : o.wp P a w (fun a' w' => PQ .normal a' w') (itp P Q k) := Oper.wp_monoP (fun a w h => h) (fun ex a w hne h => (hne (hn _ _ _ h)).elim) h1
          exact Oper.wp_mono (fun a' w' ⟨h3, h4⟩ => hinv a' w' h3 h4) (Oper.wp_put h2)
        · cases hn _ _ _ h1
      · rename_i hw
        rw [if_neg hw] at hrun'
        exact hinv _ _ hrun' ⟨undef, rfl⟩
    by_cases hix : i = x
    · rw [if_pos hix] at hrun'
      refine fin (EffQ R g D' KE) (fun _ _ _ h => h.1) hrun' ?_
      rintro a' w' ⟨_, hdef', D'', M'', hD'', hst'', hK⟩ ⟨u, hu⟩
      have hdn : o.dst = none := by
        subst hix
        have := hxd
        simpa [dstE, ho] using this
      rw [hdn] at hu
      have htm : a'.tmps = a.tmps := hu
      refine ⟨hdef', ⟨by rw [htm]; exact hi.env.size, fun t v ht => by rw [htm]; exact hi.env.at_ t v ht⟩, by simpa using hi.len, hclo, D'', M'', hG.trans hD' hD'', hst'', fun h => ?_, fun _ => hK, ?_⟩
      · have : (listed.setIfInBounds i true).getD x false = true := (getD_set hsz).2 (.inl hix.symm)
        rw [this] at h; cases h
      · intro c hcm hcx hc
        rw [getD_set hsz] at hc
        obtain ⟨d', v', F', h1, h2, h3, h4⟩ := hex c hcm hcx (hc.resolve_left (fun e => hcx (e.trans hix)))
        refine ⟨d', v', F', h1, h2, by rw [htm]; exact h3, ?_⟩
        obtain ⟨F2, g1, g2, _⟩ := hF c hcm
        rw [g1] at h2
        injection h2 with h2
        subst h2
        exact g2 _ _ _ hD'' h4
    · rw [if_neg hix] at hrun'
      obtain ⟨d, hdl, hdn, hnb, hnd⟩ := hdstA i him hix
      have hdst : o.dst = some d := by simpa [dstE, ho] using hdl
      refine fin (LocQ R g D' M' (o.dst.getD 0) F) (fun _ _ _ h => h.1) hrun' ?_
      rintro a' w' ⟨_, hdef', v, D'', hv, hD'', hst'', hFv⟩ ⟨u, hu⟩
      rw [hdst] at hv hu
      have htm : a'.tmps = a.tmps.setIfInBounds d u := hu
      have hxl : (listed.setIfInBounds i true).getD x false = listed.getD x false := getD_set_ne false hix
      refine ⟨hdef', ⟨by rw [htm]; simpa using hi.env.size, fun t y ht => ?_⟩, by simpa using hi.len, hclo, D'', M', hG.trans hD' hD'', hst'', fun h => hM0 (hxl ▸ h), fun h => hKE (hxl ▸ h), ?_⟩
      · rw [htm, Array.getElem?_setIfInBounds_ne (fun e => hnb _ (get_mem ht) e.symm)]
        exact hi.env.at_ t y ht
      · intro c hcm hcx hc
        rw [getD_set hsz] at hc
        by_cases hci : c = i
        · subst hci
          exact ⟨d, v, F, hdl, hF1, hv, hFv⟩
        · obtain ⟨d', v', F', h1, h2, h3, h4⟩ := hex c hcm hcx (hc.resolve_left hci)
          refine ⟨d', v', F', h1, h2, ?_, ?_⟩
          · rw [htm, Array.getElem?_setIfInBounds_ne (fun e => hnd c hcm hci d' h1 e.symm)]; exact h3
          · obtain ⟨F2, g1, g2, _⟩ := hF c hcm
            rw [g1] at h2
            injection h2 with h2
            subst h2
            exact g2 _ _ _ hD'' h4
  · intro listed a w hi hall
    obtain ⟨D', M', hD', hst', _, hKE, hex⟩ := hi.ex
    obtain ⟨L0, hL0, hW0⟩ := hZ D' M' hD' (hKE (hall x hxm'))
    obtain ⟨e', hrun, he'⟩ := hW0.use (a := a) (by
      intro p hp
      obtain ⟨j, hjm, hjx, rfl⟩ := hL0 p hp
      obtain ⟨d', v, F', h1, h2, h3, h4⟩ := hex j hjm hjx (hall j hjm)
      refine ⟨v, by rw [h1]; exact h3, ?_⟩
      have : Fs.getD j (fun _ _ => False) = F' := by rw [List.getD_eq_getElem?_getD, h2]; rfl
      show Fs.getD j (fun _ _ => False) v D'
      rw [this]; exact h4)
    exact hrun a w ⟨hi.env.size, fun t v ht => by
      rcases get_append ht with h | h
      · exact he' t v (get_mem h)
      · exact hi.env.at_ t v h⟩ hi.defs hst'
/-! ### the same, quicker to reckon -/
def okX (l : List Oper) (x : Nat) : List Ent → Prop
  | [] => True
  | e :: r => (r.length = x ∨ dstE l r.length = some e.1) ∧ okX l x r
theorem okX.get {l : List Oper} {x : Nat} : ∀ {acc : List Ent}, okX l x acc → ∀ {p : Nat} {y : Ent}, acc[p]? = some y → p < acc.length ∧ (acc.length - 1 - p = x ∨ dstE l (acc.length - 1 - p) = some y.1)
  | z :: r, h, 0, y, hx => by simp at hx; subst hx; exact ⟨by simp, by simpa using h.1⟩
  | z :: r, h, p + 1, y, hx => by
    obtain ⟨h1, h2⟩ := okX.get h.2 (p := p) (y := y) (by simpa using hx)
    refine ⟨by simp; omega, ?_⟩
    rw [show (z :: r).length - 1 - (p + 1) = r.length - 1 - p by simp; omega]; exact h2
def TX (R : Dict → Dict → Prop) (P : Program) (n : Nat) (Q : Exit → Act → World → Prop) (g : Gl) (k : List It) (l : List Oper) (m x : Nat) (KE : MList → Prop) (base : Env) (D : Dict) (M : MList) (r i : Nat) (acc : List Ent) : Prop :=
  acc.length = i → i + r = m → okX l x acc → ∃ ext : List Ent, ext.length = r ∧ okX l x (ext ++ acc) ∧
    (∀ j, i ≤ j → j < m → ∃ F, ((ext ++ acc).reverse.map Prod.snd)[j]? = some F ∧ MonoF R F ∧ Loc2 R P n g l m x KE base D M j (((ext ++ acc).reverse.map Prod.snd).take j) F) ∧
    ∀ D' M', R D D' → KE M' → ∃ L : List Ent, (∀ p ∈ L, ∃ q, (ext ++ acc)[q]? = some p ∧ m - 1 - q ≠ x) ∧ Wit L D' fun e' => Run P n Q g (.ops l.toArray (l.drop m) :: k) (e' ++ base) D' M'
section
variable {l : List Oper} {m x r i : Nat} {KE : MList → Prop} {base : Env} {acc : List Ent}
theorem TX.step {d : Nat} {F : Fct} (hd : i = x ∨ dstE l i = some d) (hF : MonoF R F) (hL : acc.length = i → okX l x acc → Loc2 R P n g l m x KE base D M i (acc.reverse.map Prod.snd) F)
    (h2 : TX R P n Q g k l m x KE base D M r (i + 1) ((d, F) :: acc)) : TX R P n Q g k l m x KE base D M (r + 1) i acc := by
  intro hlen hm hok
  obtain ⟨ext, h3, h4, h5, h6⟩ := h2 (by simp [hlen]) (by omega) ⟨by rw [hlen]; exact hd, hok⟩
  have he : ext ++ (d, F) :: acc = (ext ++ [(d, F)]) ++ acc := by simp
  rw [he] at h4 h5 h6
  refine ⟨ext ++ [(d, F)], by simp [h3], h4, fun j hj hjm => ?_, h6⟩
  rcases Nat.lt_or_ge i j with h | h
  · exact h5 j h hjm
  · have hij : j = i := by omega
    subst hij
    refine ⟨F, ?_, hF, ?_⟩
    · simp [List.reverse_append, hlen]
    · have : ((ext ++ [(d, F)] ++ acc).reverse.map Prod.snd).take j = acc.reverse.map Prod.snd := by
        simp [List.reverse_append, List.take_append, hlen]
      rw [this]; exact hL hlen hok
theorem TX.deps {o : Oper} {L : List Ent} {ps : List Nat} (hlen : acc.length = i) (hok : okX l x acc) (ho : l[i]? = some o) (hL : selE acc ps = some L) (hd : depOk l m i ps = true) (hx : ∀ j ∈ depsE l m o, j ≠ x) :
    ∀ p ∈ L, p ∈ (depsE l m o).map fun j => ((dstE l j).getD 0, (acc.reverse.map Prod.snd).getD j (fun _ _ => False)) := by
  intro y hy
  unfold depOk at hd
  rw [nthO_get, ho] at hd
  simp only [List.all_eq_true, Bool.and_eq_true, Nat.blt_eq, List.any_eq_true] at hd
  obtain ⟨p, hp, hpx⟩ := selE_mem hL y hy
  obtain ⟨hpl, hpd⟩ := hok.get hpx
  obtain ⟨hpi, q, hq, hqe⟩ := hd p hp
  have hqe' : i - 1 - p = q := Nat.eq_of_beq_eq_true hqe
  refine List.mem_map.2 ⟨i - 1 - p, hqe' ▸ hq, ?_⟩
  have e1 := revGet hpx hpl
  rw [hlen] at e1 hpd
  have hpd := hpd.resolve_left (hqe' ▸ hx q hq)
  rw [hpd, e1]; rfl
def noX (l : List Oper) (m x i : Nat) : Bool := match nthO l i with
  | none => false
  | some o => (depsE l m o).all fun j => !(Nat.beq j x)
theorem noX_spec {o : Oper} (h : noX l m x i = true) (ho : l[i]? = some o) : ∀ j ∈ depsE l m o, j ≠ x := by
  unfold noX at h
  rw [nthO_get, ho] at h
  intro j hj e
  have := List.all_eq_true.1 h j hj
  rw [e, Nat.beq_refl] at this; cases this
theorem TX.val {d : Nat} {L : List Ent} {o : Oper} {V : Value} (ps : List Nat) (h0 : preE l i acc ps = some (d, o, L)) (hd : (depOk l m i ps && noX l m x i && !(Nat.beq i x) && ahead l x i) = true)
    (h1 : ∀ D', R D D' → Wit L D' fun e => Run P n (LocQ R g D' M d (fun v _ => V = v)) g [.ops l.toArray [o]] (e ++ base) D' M) (h2 : TX R P n Q g k l m x KE base D M r (i + 1) ((d, fun v _ => V = v) :: acc)) : TX R P n Q g k l m x KE base D M (r + 1) i acc := by
  simp only [Bool.and_eq_true, Bool.not_eq_true'] at hd
  obtain ⟨⟨⟨hd, hnx⟩, hix⟩, hah⟩ := hd
  have hix : i ≠ x := fun e => by rw [e, Nat.beq_refl] at hix; cases hix
  unfold preE at h0
  rw [nthO_get] at h0
  split at h0
  · cases h0
  · rename_i o' ho
    split at h0
    · cases h0
    · rename_i d' hdst
      split at h0
      · cases h0
      · rename_i L' hL
        injection h0 with h0
        injection h0 with e1 h0
        injection h0 with e2 e3
        subst e1; subst e2; subst e3
        refine TX.step (.inr (by simp [dstE, ho, hdst])) (MonoF.eq V) (fun hlen hok => ?_) h2
        unfold Loc2
        rw [ho]
        intro D' M' hD' hM'
        have hM' : M' = M := hM'.resolve_right (fun h => by rw [hah] at h; cases h.1)
        subst hM'
        rw [if_neg hix, hdst]
        exact ⟨L', TX.deps hlen hok ho hL hd (noX_spec hnx ho), h1 D' hD'⟩
theorem TX.late {d : Nat} {L : List Ent} {o : Oper} {V : Value} (ps : List Nat) (h0 : preE l i acc ps = some (d, o, L)) (hd : (depOk l m i ps && noX l m x i && !(Nat.beq i x)) = true)
    (h1 : ∀ M', (M' = M ∨ KE M') → ∀ D', R D D' → Wit L D' fun e => Run P n (LocQ R g D' M' d (fun v _ => V = v)) g [.ops l.toArray [o]] (e ++ base) D' M') (h2 : TX R P n Q g k l m x KE base D M r (i + 1) ((d, fun v _ => V = v) :: acc)) : TX R P n Q g k l m x KE base D M (r + 1) i acc := by
  simp only [Bool.and_eq_true, Bool.not_eq_true'] at hd
  obtain ⟨⟨hd, hnx⟩, hix⟩ := hd
  have hix : i ≠ x := fun e => by rw [e, Nat.beq_refl] at hix; cases hix
  unfold preE at h0
  rw [nthO_get] at h0
  split at h0
  · cases h0
  · rename_i o' ho
    split at h0
    · cases h0
    · rename_i d' hdst
      split at h0
      · cases h0
      · rename_i L' hL
        injection h0 with h0
        injection h0 with e1 h0
        injection h0 with e2 e3
        subst e1; subst e2; subst e3
        refine TX.step (.inr (by simp [dstE, ho, hdst])) (MonoF.eq V) (fun hlen hok => ?_) h2
        unfold Loc2
        rw [ho]
        intro D' M' hD' hM'
        rw [if_neg hix, hdst]
        exact ⟨L', TX.deps hlen hok ho hL hd (noX_spec hnx ho), h1 M' (hM'.imp id And.right) D' hD'⟩
def preX (l : List Oper) (i : Nat) (acc : List Ent) (ps : List Nat) : Option (Oper × List Ent) := match nthO l i with
  | none => none
  | some o => match selE acc ps with
    | none => none
    | some L => some (o, L)
theorem TX.eff {L : List Ent} {o : Oper} (ps : List Nat) (h0 : preX l x acc ps = some (o, L)) (hd : (depOk l m x ps && noX l m x x) = true)
    (h1 : ∀ D', R D D' → Wit L D' fun e => Run P n (EffQ R g D' KE) g [.ops l.toArray [o]] (e ++ base) D' M) (h2 : TX R P n Q g k l m x KE base D M r (x + 1) ((0, fun _ _ => True) :: acc)) : TX R P n Q g k l m x KE base D M (r + 1) x acc := by
  simp only [Bool.and_eq_true] at hd
  obtain ⟨hd, hnx⟩ := hd
  unfold preX at h0
  rw [nthO_get] at h0
  split at h0
  · cases h0
  · rename_i o' ho
    split at h0
    · cases h0
    · rename_i L' hL
      injection h0 with h0
      injection h0 with e2 e3
      subst e2; subst e3
      refine TX.step (.inl rfl) (fun _ _ _ _ h => h) (fun hlen hok => ?_) h2
      unfold Loc2
      rw [ho]
      intro D' M' hD' hM'
      have hah : ahead l x x = true := by
        have : ∀ (p : Nat) (acc : List Nat), x ∈ acc → x ∈ reachL l p acc := by
          intro p
          induction p with
          | zero => exact fun _ h => h
          | succ p ih =>
            intro acc h
            refine ih _ ?_
            split
            · exact List.mem_cons_of_mem _ h
            · exact h
        exact List.any_eq_true.2 ⟨x, this x [x] (List.mem_singleton.2 rfl), Nat.beq_refl x⟩
      have hM' : M' = M := hM'.resolve_right (fun h => by rw [hah] at h; cases h.1)
      subst hM'
      rw [if_pos rfl]
      exact ⟨L', TX.deps hlen hok ho hL hd (noX_spec hnx ho), h1 D' hD'⟩
def cutX (x : Nat) : List Ent → List Ent
  | [] => []
  | e :: r => match Nat.beq r.length x with
    | true => cutX x r
    | false => e :: cutX x r
theorem cutX_mem : ∀ {acc : List Ent}, ∀ p ∈ cutX x acc, ∃ q, acc[q]? = some p ∧ q < acc.length ∧ acc.length - 1 - q ≠ x
  | e :: r, p, hp => by
    unfold cutX at hp
    split at hp
    · obtain ⟨q, h1, h2, h3⟩ := cutX_mem p hp
      exact ⟨q + 1, by simpa using h1, by simp; omega, by rw [show (e :: r).length - 1 - (q + 1) = r.length - 1 - q by simp; omega]; exact h3⟩
    · rename_i hb
      rcases List.mem_cons.1 hp with rfl | hp
      · refine ⟨0, by simp, by simp, fun h => ?_⟩
        have : r.length = x := by simpa using h
        rw [this, Nat.beq_refl] at hb; cases hb
      · obtain ⟨q, h1, h2, h3⟩ := cutX_mem p hp
        exact ⟨q + 1, by simpa using h1, by simp; omega, by rw [show (e :: r).length - 1 - (q + 1) = r.length - 1 - q by simp; omega]; exact h3⟩
theorem TX.fin {rest : List Oper} (hr : l.drop m = rest) (h : ∀ M', KE M' → ∀ D', R D D' → Wit (cutX x acc) D' fun e' => Run P n Q g (.ops l.toArray rest :: k) (e' ++ base) D' M') : TX R P n Q g k l m x KE base D M 0 m acc := by
  intro hlen hm hok
  refine ⟨[], rfl, hok, fun j h1 h2 => by omega, fun D' M' hD' hK => ⟨_, fun p hp => ?_, by rw [hr]; exact h M' hK D' hD'⟩⟩
  obtain ⟨q, h1, h2, h3⟩ := cutX_mem p hp
  exact ⟨q, h1, by rw [← hlen]; exact h3⟩
theorem Run.drawX {id : Nat} (hG : Grow R) (m x : Nat) (KE : MList → Prop) (base : Env) (hmix : P.follows .mixedOrders = true) (hok : draw2Ok l m n x (base.map Prod.fst) = true) (hbase : e.Has base)
    (h : TX R P n Q g k l m x KE base D M m 0 []) : Run P n Q g (.code (.region id l.toArray true) :: k) e D M := by
  obtain ⟨ext, h1, h2, h3, h4⟩ := h rfl (by omega) trivial
  rw [List.append_nil] at h2 h3 h4
  refine Run.draw2 hG m x KE base (ext.reverse.map Prod.snd) hmix hok hbase (by simp [h1]) (fun i hi => h3 i (Nat.zero_le _) hi) (fun D' M' hD' hK => ?_)
  obtain ⟨L, h5, h6⟩ := h4 D' M' hD' hK
  refine ⟨L, fun p hp => ?_, h6⟩
  obtain ⟨q, h7, h8⟩ := h5 p hp
  obtain ⟨h9, h10⟩ := h2.get h7
  rw [h1] at h10
  refine ⟨m - 1 - q, by omega, h8, ?_⟩
  have := revGet h7 h9
  rw [h1] at this
  rw [h10.resolve_left h8, this]; rfl
end
end
end Go.Proofs.Ytgdpjpmjcpieiaa
