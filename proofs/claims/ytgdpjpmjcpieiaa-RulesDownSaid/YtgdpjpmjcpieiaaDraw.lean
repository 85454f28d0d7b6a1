/- The engine's rule for a statement whose order is open: each operation of its first part is shown by itself, from what it looks at alone; then any order serves. No condition. -/
import Derived.Test.YtgdpjpmjcpieiaaCall
namespace Go.Proofs.Ytgdpjpmjcpieiaa
open Go
set_option linter.unusedVariables false
set_option linter.unusedSimpArgs false

abbrev Fct := Value → Dict → Prop
def MonoF (R : Dict → Dict → Prop) (F : Fct) : Prop := ∀ v D D', R D D' → F v D → F v D'
theorem MonoF.eq {R : Dict → Dict → Prop} (V : Value) : MonoF R (fun v _ => V = v) := fun _ _ _ _ h => h
theorem MonoF.imp {R : Dict → Dict → Prop} (p : Prop) (V : Value) : MonoF R (fun v _ => p → V = v) := fun _ _ _ _ h => h
theorem MonoF.pure {R : Dict → Dict → Prop} (p : Value → Prop) : MonoF R (fun v _ => p v) := fun _ _ _ _ h => h
theorem MonoF.same (F : Fct) : MonoF Eq F := fun _ _ _ e h => e ▸ h
/-- how what never changes may grow: not at all, or by more -/
structure Grow (R : Dict → Dict → Prop) : Prop where
  refl : ∀ D, R D D
  trans : ∀ {D D' D''}, R D D' → R D' D'' → R D D''
theorem Grow.eq : Grow Eq := ⟨fun _ => rfl, fun h h' => h.trans h'⟩
theorem Grow.le : Grow Le := ⟨fun _ => Le.rfl', fun h h' => h.trans h'⟩
def Wit : List (Nat × Fct) → Dict → (Env → Prop) → Prop
  | [], _, K => K []
  | (d, F) :: r, D, K => ∀ v, F v D → Wit r D (fun e => K ((d, v) :: e))
theorem Wit.use : ∀ {L : List (Nat × Fct)} {D : Dict} {K : Env → Prop} {a : Act}, Wit L D K → (∀ p ∈ L, ∃ v, a.tmps[p.1]? = some v ∧ p.2 v D) → ∃ e, K e ∧ (∀ t v, (t, v) ∈ e → a.tmps[t]? = some v)
  | [], _, _, _, h, _ => ⟨[], h, fun _ _ h => by cases h⟩
  | (d, F) :: r, D, K, a, h, ha => by
    obtain ⟨v, h1, h2⟩ := ha (d, F) (List.mem_cons_self ..)
    obtain ⟨e, h3, h4⟩ := Wit.use (h v h2) (fun p hp => ha p (List.mem_cons_of_mem _ hp))
    refine ⟨_, h3, fun t u hu => ?_⟩
    rcases List.mem_cons.1 hu with hu | hu
    · injection hu with e1 e2; subst e1; subst e2; exact h1
    · exact h4 t u hu
theorem get_mem : ∀ {e : Env} {t : Nat} {v : Value}, e.get t = some v → (t, v) ∈ e
  | (s, u) :: r, t, v, h => by
    unfold Env.get at h
    split at h
    · rename_i hb; injection h with h; subst h; rw [Nat.eq_of_beq_eq_true hb]; exact List.mem_cons_self ..
    · exact List.mem_cons_of_mem _ (get_mem h)
theorem get_append {e e' : Env} {t : Nat} {v : Value} : (e ++ e').get t = some v → e.get t = some v ∨ e'.get t = some v := by
  induction e with
  | nil => exact .inr
  | cons p r ih =>
    obtain ⟨s, u⟩ := p
    simp only [List.cons_append, Env.get]
    cases Nat.beq s t
    · exact ih
    · exact .inl

/-! ### what the text says of its operations -/
def dirE (l : List Oper) (i j : Nat) : Bool := match l[i]? with
  | some o => o.after.toList.any fun e => Region.binds .any e && Nat.beq e.on j
  | none => false
def nearE (l : List Oper) (i j : Nat) : Bool := (List.range (i - j)).any fun t => dirE l (i - t) j
def dstE (l : List Oper) (i : Nat) : Option Nat := match l[i]? with
  | some o => o.dst
  | none => none
def looksE (all : List Oper) (o : Oper) : List Nat := o.looksAt all.toArray
def isDefer : Op → Bool
  | .defer _ => true
  | _ => false
/-- the operations of the first part that o looks at -/
def depsE (l : List Oper) (m : Nat) (o : Oper) : List Nat := (List.range m).filter fun j => match dstE l j with
  | some d => (looksE l o).any (Nat.beq d)
  | none => false
def drawOk (l : List Oper) (m n : Nat) (base : List Nat) : Bool :=
  Nat.ble m l.length &&
  ((List.range m).all fun i => match l[i]? with
    | none => false
    | some o => (match o.dst with
        | none => false
        | some d => Nat.blt d n && !(base.any (Nat.beq d)) && (List.range i).all fun j => match dstE l j with
            | some d' => !(Nat.beq d d')
            | none => false) &&
      (depsE l m o).all (fun j => Nat.blt j i && dirE l i j) && !isDefer o.op) &&
  ((List.range (l.length - m)).all fun s => (List.range (m + s)).all fun j => nearE l (m + s) j) &&
  ((List.range l.length).all fun i => match l[i]? with
    | none => false
    | some o => o.after.toList.all fun e => !(Region.binds .any e) || Nat.blt e.on i)

section
variable {R : Dict → Dict → Prop} {P : Program} {n : Nat} {Q : Exit → Act → World → Prop} {g : Gl} {k : List It} {e : Env} {D : Dict} {M : MList}
def LocQ (R : Dict → Dict → Prop) (g : Gl) (D : Dict) (M : MList) (d : Nat) (F : Fct) : Exit → Act → World → Prop := fun ex a w => ex = .normal ∧ a.defers = [] ∧ ∃ v D', a.tmps[d]? = some v ∧ R D D' ∧ St g w D' M ∧ F v D'
/-- one operation by itself -/
def LocS (R : Dict → Dict → Prop) (P : Program) (n : Nat) (g : Gl) (l : List Oper) (m : Nat) (base : Env) (D : Dict) (M : MList) (i : Nat) (Fs : List Fct) (F : Fct) : Prop :=
  match l[i]? with
  | none => True
  | some o => ∀ D', R D D' → ∃ L : List (Nat × Fct), (∀ p ∈ L, p ∈ (depsE l m o).map fun j => ((dstE l j).getD 0, Fs.getD j (fun _ _ => False))) ∧ Wit L D' fun e => Run P n (LocQ R g D' M (o.dst.getD 0) F) g [.ops l.toArray [o]] (e ++ base) D' M
theorem Run.loc {d : Nat} {F : Fct} {D' : Dict} {v : Value} (hv : e.get d = some v) (hD : R D D') (hF : F v D') : Run P n (LocQ R g D M d F) g [] e D' M :=
  fun a w he hd hs => ⟨rfl, hd, v, D', he.at_ d v hv, hD, hs, hF⟩
def Tele (R : Dict → Dict → Prop) (P : Program) (n : Nat) (g : Gl) (l : List Oper) (m : Nat) (base : Env) (D : Dict) (M : MList) (Z : List Fct → Prop) : Nat → List Fct → Prop
  | 0, acc => Z acc
  | r + 1, acc => ∃ F : Fct, MonoF R F ∧ LocS R P n g l m base D M acc.length acc F ∧ Tele R P n g l m base D M Z r (acc ++ [F])
theorem Tele.all {l : List Oper} {m : Nat} {base : Env} {Z : List Fct → Prop} : ∀ (r : Nat) (acc : List Fct), Tele R P n g l m base D M Z r acc → ∃ Fs, Z (acc ++ Fs) ∧ Fs.length = r ∧
    ∀ i, i < r → ∃ F, Fs[i]? = some F ∧ MonoF R F ∧ LocS R P n g l m base D M (acc.length + i) (acc ++ Fs.take i) F
  | 0, acc, h => ⟨[], by rw [List.append_nil]; exact h, rfl, fun i hi => by omega⟩
  | r + 1, acc, h => by
    obtain ⟨F, h1, h2, h3⟩ := h
    obtain ⟨Fs, h4, h5, h6⟩ := Tele.all r _ h3
    refine ⟨F :: Fs, by simpa using h4, by simp [h5], fun i hi => ?_⟩
    cases i with
    | zero => exact ⟨F, rfl, h1, by simpa using h2⟩
    | succ i =>
      obtain ⟨F', e1, e2, e3⟩ := h6 i (by omega)
      refine ⟨F', by simpa using e1, e2, ?_⟩
      have : acc.length + (i + 1) = (acc ++ [F]).length + i := by simp; omega
      rw [this]
      simpa using e3
theorem Oper.wp_monoP {o : Oper} {a : Act} {w : World} {K K' : Act → World → Prop} {Q Q' : Exit → Act → World → Prop} (h : ∀ a w, K a w → K' a w) (hQ : ∀ e a w, e ≠ .normal → Q e a w → Q' e a w)
    (hh : o.wp P a w K Q) : o.wp P a w K' Q' := by
  unfold Oper.wp at *
  generalize (execOp a.eval o).run P w = r at *
  cases r with
  | ok n w' =>
    cases n <;> simp only [Oper.upon] at hh ⊢ <;>
      first
        | exact h _ _ hh
        | exact Calls.mono hh (fun e w'' he => by cases e <;> first | exact h _ _ he | exact hQ _ _ _ (by intro q; cases q) he | exact (let ⟨x, y, z⟩ := he; ⟨x, y, hQ _ _ _ (by intro q; cases q) z⟩))
        | exact Rows.mono hh (fun _ _ he => h _ _ he)
  | halt x w' => cases x <;> simp only [Oper.upon] at hh ⊢ <;> first | exact hQ _ _ _ (by intro q; cases q) hh | exact hh
theorem Oper.wp_put {o : Oper} {a : Act} {w : World} {K : Act → World → Prop} (h : o.wp P a w K Q) : o.wp P a w (fun a' w' => K a' w' ∧ ∃ v, a'.tmps = (a.put o.dst v).tmps) Q := by
  have hd : ∀ (d : Deferred), ({ a with defers := d :: a.defers } : Act).put o.dst undef = { a.put o.dst undef with defers := d :: a.defers } := fun d => by cases o.dst <;> rfl
  unfold Oper.wp at *
  generalize (execOp a.eval o).run P w = r at *
  cases r with
  | ok nx w' =>
    cases nx <;> simp only [Oper.upon] at h ⊢ <;>
      first
        | exact ⟨h, _, rfl⟩
        | exact ⟨h, undef, by rw [hd]⟩
        | exact Calls.mono h (fun e w'' he => by cases e <;> first | exact ⟨he, _, rfl⟩ | exact he)
        | exact Rows.mono h (fun _ _ he => ⟨he, _, rfl⟩)
  | halt x w' => cases x <;> simp only [Oper.upon] at h ⊢ <;> exact h
/-- the steps of the first part, and the second part behind it -/
structure Inv (R : Dict → Dict → Prop) (n : Nat) (g : Gl) (l : List Oper) (m : Nat) (base : Env) (D : Dict) (M : MList) (Fs : List Fct) (listed : Array Bool) (a : Act) (w : World) : Prop where
  defs : a.defers = []
  env : EnvOk n base a
  len : listed.size = l.length
  closed : ∀ i, listed.getD i false = true → ∀ j, dirE l i j = true → listed.getD j false = true
  ex : ∃ D', R D D' ∧ St g w D' M ∧ ∀ i, i < m → listed.getD i false = true → ∃ d v F, dstE l i = some d ∧ Fs[i]? = some F ∧ a.tmps[d]? = some v ∧ F v D'
theorem near_listed {l : List Oper} {listed : Array Bool} (hc : ∀ i, listed.getD i false = true → ∀ j, dirE l i j = true → listed.getD j false = true) {i : Nat} (hn : ∀ j, j < i → nearE l i j = true)
    (hi : ∀ j, dirE l i j = true → listed.getD j false = true) : ∀ (d j : Nat), i - j = d → j < i → listed.getD j false = true := by
  intro d
  induction d using Nat.strongRecOn with
  | _ d ih =>
    intro j hd hj
    have := hn j hj
    simp only [nearE, List.any_eq_true, List.mem_range] at this
    obtain ⟨t, ht, he⟩ := this
    rcases Nat.eq_zero_or_pos t with h0 | h0
    · subst h0; exact hi j he
    · exact hc _ (ih (i - (i - t)) (by omega) (i - t) rfl (by omega)) j he
theorem ready_dir {l : List Oper} {listed : Array Bool} {i : Nat} (h : i ∈ Region.ready .any l.toArray listed) : ∀ j, dirE l i j = true → listed.getD j false = true := by
  obtain ⟨h0, o, ho, hall⟩ := mem_ready.1 h
  intro j hj
  have ho' : l[i]? = some o := by simpa using ho
  simp only [dirE, ho', List.any_eq_true, Bool.and_eq_true] at hj
  obtain ⟨e, he, hb, hj⟩ := hj
  rw [← Nat.eq_of_beq_eq_true hj]
  exact hall e (by simpa using he) hb
theorem getD_false_of {listed : Array Bool} {i : Nat} (h : listed.getD i true = false) : listed.getD i false = false := by
  rcases Nat.lt_or_ge i listed.size with h1 | h1
  · simp [h1] at h ⊢; exact h
  · simp [Array.getElem?_eq_none h1]
theorem getD_set {listed : Array Bool} {i j : Nat} (hi : i < listed.size) : (listed.setIfInBounds i true).getD j false = true ↔ j = i ∨ listed.getD j false = true := by
  by_cases h : i = j
  · subst h; simp [hi]
  · rw [getD_set_ne false h]
    exact ⟨.inr, fun hh => hh.resolve_left (fun e => h e.symm)⟩
/-- nothing is ready: all is done -/
theorem none_ready {l : List Oper} {listed : Array Bool} (hl : listed.size = l.length) (hlt : ∀ i j, dirE l i j = true → j < i) (hr : Region.ready .any l.toArray listed = []) : ∀ i, i < l.length → listed.getD i false = true := by
  intro i
  induction i using Nat.strongRecOn with
  | _ i ih =>
    intro hi
    cases hq : listed.getD i false with
    | true => rfl
    | false =>
      exfalso
      have hm : i ∈ Region.ready .any l.toArray listed := by
        refine mem_ready.2 ⟨?_, l[i], by simp [hi], fun e he hb => ?_⟩
        · have : i < listed.size := by omega
          simp [this] at hq ⊢; exact hq
        · have hd : dirE l i e.on = true := by
            simp only [dirE, List.getElem?_eq_getElem hi, List.any_eq_true, Bool.and_eq_true]
            exact ⟨e, by simpa using he, hb, Nat.beq_refl _⟩
          have := hlt i e.on hd
          exact ih e.on this (by omega)
      rw [hr] at hm; cases hm
/-- behind the first part the order is the text's -/
theorem tail_any {l : List Oper} {m : Nat} (hlt : ∀ i j, dirE l i j = true → j < i) (hs : ∀ s, m ≤ s → s < l.length → ∀ j, j < s → nearE l s j = true) :
    ∀ (r s : Nat) (listed : Array Bool) (a : Act) (w : World), s + r = l.length → m ≤ s → listed.size = l.length → (∀ j, listed.getD j false = true ↔ j < s) → wpList P l.toArray Q (l.drop s) a w → wpAny P .any l.toArray Q r listed a w
  | 0, s, listed, a, w, h1, h2, h3, h4, h => by
    have hn : Region.ready .any l.toArray listed = [] := by
      cases hr : Region.ready .any l.toArray listed with
      | nil => rfl
      | cons i r =>
        exfalso
        have hi : i ∈ Region.ready .any l.toArray listed := by rw [hr]; exact List.mem_cons_self ..
        obtain ⟨h5, o, ho, _⟩ := mem_ready.1 hi
        have hlt' : i < l.length := by have := (Array.getElem?_eq_some_iff.1 ho).1; simpa using this
        have := getD_false_of h5
        rw [(h4 i).2 (by omega)] at this; cases this
    rw [List.drop_eq_nil_of_le (by omega)] at h
    exact ⟨hn, h⟩
  | r + 1, s, listed, a, w, h1, h2, h3, h4, h => by
    have hsl : s < l.length := by omega
    have hready : ∀ i, i ∈ Region.ready .any l.toArray listed → i = s := by
      intro i hi
      obtain ⟨h5, o, ho, _⟩ := mem_ready.1 hi
      have hlt' : i < l.length := by have := (Array.getElem?_eq_some_iff.1 ho).1; simpa using this
      have h6 := getD_false_of h5
      have h7 : s ≤ i := by
        rcases Nat.lt_or_ge i s with h | h
        · rw [(h4 i).2 h] at h6; cases h6
        · exact h
      rcases Nat.lt_or_ge s i with h8 | h8
      · have := near_listed (l := l) (listed := listed) (fun i hi j hj => (h4 j).2 (by have := hlt i j hj; have := (h4 i).1 hi; omega)) (i := i) (fun j hj => hs i (by omega) hlt' j hj) (ready_dir hi) _ s rfl h8
        have := (h4 s).1 this
        omega
      · omega
    refine ⟨fun h0 => ?_, fun i hi => ?_⟩
    · have := none_ready h3 hlt h0 s hsl
      have := (h4 s).1 this
      omega
    · have := hready i hi
      subst this
      rw [List.drop_eq_getElem_cons hsl] at h
      have hg : l.toArray[i]? = some l[i] := by simp [hsl]
      have ih := tail_any hlt hs r (i + 1) (listed.setIfInBounds i true)
      unfold wpOp
      rw [hg]
      simp only
      unfold wpList at h
      have hset : ∀ j, (listed.setIfInBounds i true).getD j false = true ↔ j < i + 1 := fun j => by rw [getD_set (by omega), h4 j]; omega
      split
      · rename_i hw
        rw [if_pos hw] at h
        exact h.imp (Oper.wp_mono fun a w h => ih a w (by omega) (by omega) (by simp [h3]) hset h) id
      · rename_i hw
        rw [if_neg hw] at h
        exact ih _ _ (by omega) (by omega) (by simp [h3]) hset h
def todo (l : List Oper) (listed : Array Bool) : List Nat := (List.range l.length).filter fun i => !listed.getD i false
theorem todo_set {l : List Oper} {listed : Array Bool} {i : Nat} (hi : i < listed.size) (hl : i < l.length) (hu : listed.getD i false = false) : (todo l (listed.setIfInBounds i true)).length + 1 = (todo l listed).length := by
  have hm : i ∈ todo l listed := by simp only [todo, List.mem_filter, List.mem_range, hu]; exact ⟨hl, rfl⟩
  have hnd : (todo l listed).Nodup := List.nodup_range.sublist List.filter_sublist
  have he : todo l (listed.setIfInBounds i true) = (todo l listed).erase i := by
    rw [hnd.erase_eq_filter]
    simp only [todo, List.filter_filter]
    refine List.filter_congr fun j _ => ?_
    by_cases hj : i = j
    · subst hj; simp [hi]
    · rw [getD_set_ne false hj]
      have : (j != i) = true := by simp; exact fun e => hj e.symm
      rw [this]; simp
  rw [he, List.length_erase_of_mem hm]
  have := List.length_pos_of_mem hm
  omega
theorem todo_first {l : List Oper} {listed : Array Bool} {m : Nat} (hm : m ≤ l.length) (h : ∀ j, listed.getD j false = true ↔ j < m) : (todo l listed).length = l.length - m := by
  have : todo l listed = (List.range l.length).filter fun i => decide (m ≤ i) := by
    refine List.filter_congr fun j _ => ?_
    by_cases hj : j < m
    · rw [(h j).2 hj]; simp; omega
    · have : listed.getD j false = false := by
        cases hq : listed.getD j false with
        | false => rfl
        | true => exact absurd ((h j).1 hq) hj
      rw [this]; simp; omega
  rw [this]
  clear this h
  obtain ⟨d, hd⟩ : ∃ d, l.length = m + d := ⟨l.length - m, by omega⟩
  rw [hd, List.range_add, List.filter_append]
  have h1 : (List.range m).filter (fun i => decide (m ≤ i)) = [] := by
    rw [List.filter_eq_nil_iff]; intro a ha; have := List.mem_range.1 ha; simp; omega
  have h2 : ((List.range d).map (m + ·)).filter (fun i => decide (m ≤ i)) = (List.range d).map (m + ·) := by
    rw [List.filter_eq_self]; intro a ha; obtain ⟨x, _, rfl⟩ := List.mem_map.1 ha; simp
  rw [h1, h2]; simp
theorem first_any {l : List Oper} {m : Nat} {base : Env} {Fs : List Fct} (hm : m ≤ l.length) (hlt : ∀ i j, dirE l i j = true → j < i) (hs : ∀ s, m ≤ s → s < l.length → ∀ j, j < s → nearE l s j = true)
    (hstep : ∀ i, i < m → ∀ listed a w, Inv R n g l m base D M Fs listed a w → i ∈ Region.ready .any l.toArray listed → wpOp P l.toArray Q i (fun a' w' => Inv R n g l m base D M Fs (listed.setIfInBounds i true) a' w') a w)
    (hend : ∀ listed a w, Inv R n g l m base D M Fs listed a w → (∀ i, i < m → listed.getD i false = true) → wpList P l.toArray Q (l.drop m) a w) :
    ∀ (r : Nat) (listed : Array Bool) (a : Act) (w : World), (todo l listed).length = r → (∀ i, m ≤ i → listed.getD i false = false) → Inv R n g l m base D M Fs listed a w → wpAny P .any l.toArray Q r listed a w := by
  intro r
  induction r with
  | zero =>
    intro listed a w hr hno hi
    have hall : ∀ i, i < m → listed.getD i false = true := by
      intro i him
      cases hq : listed.getD i false with
      | true => rfl
      | false =>
        exfalso
        have : i ∈ todo l listed := by simp only [todo, List.mem_filter, List.mem_range, hq]; exact ⟨by omega, rfl⟩
        rw [List.eq_nil_of_length_eq_zero hr] at this; cases this
    have hiff : ∀ j, listed.getD j false = true ↔ j < m := by
      refine fun j => ⟨fun h => ?_, hall j⟩
      rcases Nat.lt_or_ge j m with h1 | h1
      · exact h1
      · rw [hno j h1] at h; cases h
    have hc := todo_first hm hiff
    exact tail_any hlt hs 0 m listed a w (by omega) (Nat.le_refl _) hi.len hiff (hend listed a w hi hall)
  | succ r ih =>
    intro listed a w hr hno hi
    by_cases hall : ∀ i, i < m → listed.getD i false = true
    · have hiff : ∀ j, listed.getD j false = true ↔ j < m := by
        refine fun j => ⟨fun h => ?_, hall j⟩
        rcases Nat.lt_or_ge j m with h1 | h1
        · exact h1
        · rw [hno j h1] at h; cases h
      have hc := todo_first hm hiff
      exact tail_any hlt hs (r + 1) m listed a w (by omega) (Nat.le_refl _) hi.len hiff (hend listed a w hi hall)
    · have hready : ∀ i, i ∈ Region.ready .any l.toArray listed → i < m ∧ listed.getD i false = false ∧ i < l.length := by
        intro i hir
        obtain ⟨h5, o, ho, _⟩ := mem_ready.1 hir
        have hlt' : i < l.length := by have := (Array.getElem?_eq_some_iff.1 ho).1; simpa using this
        refine ⟨?_, getD_false_of h5, hlt'⟩
        rcases Nat.lt_or_ge i m with h | h
        · exact h
        · exfalso
          exact hall fun j hj => near_listed hi.closed (fun j hj => hs i h hlt' j hj) (ready_dir hir) _ j rfl (by omega)
      refine ⟨fun h0 => ?_, fun i hir => ?_⟩
      · exfalso
        exact hall fun i him => none_ready hi.len hlt h0 i (by omega)
      · obtain ⟨h1, h2, h3⟩ := hready i hir
        refine wpOp_mono (fun a' w' hi' => ih _ a' w' ?_ ?_ hi') (hstep i h1 listed a w hi hir)
        · have := todo_set (l := l) (listed := listed) (i := i) (by rw [hi.len]; exact h3) h3 h2
          omega
        · intro j hj
          rw [getD_set_ne false (by omega)]
          exact hno j hj
/-- **A statement whose order is open.** Its first m operations one by one; then what stands behind, in the text's order. -/
theorem Run.draw {id : Nat} {l : List Oper} (hG : Grow R) (m : Nat) (base : Env) (hmix : P.follows .mixedOrders = true) (hok : drawOk l m n (base.map Prod.fst) = true) (hbase : e.Has base)
    (h : Tele R P n g l m base D M (fun Fs => ∀ D', R D D' → ∃ L : List (Nat × Fct), (∀ p ∈ L, p ∈ (List.range m).map fun j => ((dstE l j).getD 0, Fs.getD j (fun _ _ => False))) ∧ Wit L D' fun e' => Run P n Q g (.ops l.toArray (l.drop m) :: k) (e' ++ base) D' M) m []) :
    Run P n Q g (.code (.region id l.toArray true) :: k) e D M := by
  intro a w he hd hst
  show (Code.region id l.toArray true).wp P (itp P Q k) a w
  simp only [drawOk, Bool.and_eq_true, List.all_eq_true, List.mem_range] at hok
  obtain ⟨⟨⟨hml, hA⟩, hB⟩, hC⟩ := hok
  have hml' : m ≤ l.length := Nat.le_of_ble_eq_true hml
  have hlt : ∀ i j, dirE l i j = true → j < i := by
    intro i j hij
    unfold dirE at hij
    split at hij
    · rename_i o ho
      simp only [List.any_eq_true, Bool.and_eq_true] at hij
      obtain ⟨ed, hed, hb, hj⟩ := hij
      have hil : i < l.length := by
        rcases Nat.lt_or_ge i l.length with h | h
        · exact h
        · rw [List.getElem?_eq_none h] at ho; cases ho
      have := hC i hil
      rw [ho] at this
      simp only [List.all_eq_true] at this
      have := this ed hed
      rw [hb] at this
      simp [Nat.blt_eq] at this
      rw [← Nat.eq_of_beq_eq_true hj]; exact this
    · cases hij
  have hs : ∀ s, m ≤ s → s < l.length → ∀ j, j < s → nearE l s j = true := by
    intro s h1 h2 j h3
    have := hB (s - m) (by omega) j (by omega)
    rwa [show m + (s - m) = s by omega] at this
  obtain ⟨Fs, hZ, hFl, hF⟩ := Tele.all m [] h
  simp only [List.nil_append] at hZ
  have hop : ∀ i, i < m → ∃ o d, l[i]? = some o ∧ o.dst = some d ∧ d < n ∧ (∀ q ∈ base, q.1 ≠ d) ∧ (∀ j, j < i → ∀ d', dstE l j = some d' → d' ≠ d) ∧ (∀ j ∈ depsE l m o, j < i ∧ dirE l i j = true) := by
    intro i him
    have h1 := hA i him
    cases ho : l[i]? with
    | none => rw [ho] at h1; cases h1
    | some o =>
      rw [ho] at h1
      simp only [Bool.and_eq_true] at h1
      obtain ⟨⟨h2, h3⟩, _⟩ := h1
      cases hdst : o.dst with
      | none => rw [hdst] at h2; cases h2
      | some d =>
        rw [hdst] at h2
        simp only [Bool.and_eq_true, Nat.blt_eq, Bool.not_eq_true', List.all_eq_true, List.mem_range] at h2
        obtain ⟨⟨h4, h5⟩, h6⟩ := h2
        refine ⟨o, d, rfl, hdst, h4, ?_, ?_, ?_⟩
        · intro q hq he
          have : (base.map Prod.fst).any (Nat.beq d) = true := List.any_eq_true.2 ⟨q.1, List.mem_map.2 ⟨q, hq, rfl⟩, by rw [he]; exact Nat.beq_refl d⟩
          rw [this] at h5; cases h5
        · intro j hj d' hd' he
          have := h6 j hj
          rw [hd'] at this
          subst he
          simp at this
        · intro j hj
          have := List.all_eq_true.1 h3 j hj
          simpa [Nat.blt_eq] using this
  refine wp_region_any hmix ?_
  have htodo : (todo l (Array.replicate l.toArray.size false)).length = l.toArray.size := by
    have : todo l (Array.replicate l.toArray.size false) = List.range l.length := by
      rw [todo, List.filter_eq_self]
      intro j _
      by_cases hj : j < l.length <;> simp [Array.getElem?_replicate, hj]
    rw [this]; simp
  have hfl : ∀ j, (Array.replicate l.toArray.size false).getD j false = false := by
    intro j
    by_cases hj : j < l.length <;> simp [Array.getElem?_replicate, hj]
  refine first_any (D := D) (M := M) (n := n) (g := g) (m := m) (base := base) (Fs := Fs) hml' hlt hs ?_ ?_ l.toArray.size _ a _ htodo (fun i _ => hfl i) ⟨hd, he.has hbase, by simp, fun i hi => (by rw [hfl i] at hi; cases hi), D, hG.refl D, hst.drew _ (Nat.le_succ _), fun i _ hi => (by rw [hfl i] at hi; cases hi)⟩
  · intro i him listed a w hi hr
    obtain ⟨o, d, ho, hdst, hdn, hnb, hnd, hdep⟩ := hop i him
    obtain ⟨F, hF1, hF2, hF3⟩ := hF i him
    simp only [List.length_nil, Nat.zero_add, List.nil_append] at hF3
    obtain ⟨D', hD', hst', hex⟩ := hi.ex
    unfold LocS at hF3
    rw [ho] at hF3
    simp only at hF3
    have hdirs := ready_dir hr
    have hil : i < l.length := by
      rcases Nat.lt_or_ge i l.length with h | h
      · exact h
      · rw [List.getElem?_eq_none h] at ho; cases ho
    obtain ⟨L0, hL0, hW0⟩ := hF3 D' hD'
    obtain ⟨e', hrun, he'⟩ := hW0.use (a := a) (by
      intro p hp
      obtain ⟨j, hj, rfl⟩ := List.mem_map.1 (hL0 p hp)
      have hjm : j < m := by
        have := (List.mem_filter.1 hj).1
        exact List.mem_range.1 this
      obtain ⟨hji, hje⟩ := hdep j hj
      obtain ⟨d', v, F', h1, h2, h3, h4⟩ := hex j hjm (hdirs j hje)
      refine ⟨v, by rw [h1]; exact h3, ?_⟩
      have : (Fs.take i).getD j (fun _ _ => False) = F' := by
        rw [List.getD_eq_getElem?_getD, List.getElem?_take, if_pos hji, h2]; rfl
      show (Fs.take i).getD j (fun _ _ => False) v D'
      rw [this]; exact h4)
    have hrun' := hrun a w ⟨hi.env.size, fun t v ht => by
      rcases get_append ht with h | h
      · exact he' t v (get_mem h)
      · exact hi.env.at_ t v h⟩ hi.defs hst'
    change wpList P l.toArray (LocQ R g D' M (o.dst.getD 0) F) [o] a w at hrun'
    have hinv : ∀ a' w', LocQ R g D' M (o.dst.getD 0) F .normal a' w' → (∃ v, a'.tmps = (a.put o.dst v).tmps) → Inv R n g l m base D M Fs (listed.setIfInBounds i true) a' w' := by
      rintro a' w' ⟨_, hdef', v, D'', hv, hD'', hst'', hFv⟩ ⟨u, hu⟩
      rw [hdst] at hv hu
      have htm : a'.tmps = a.tmps.setIfInBounds d u := hu
      have hsz : i < listed.size := by rw [hi.len]; exact hil
      refine ⟨hdef', ⟨by rw [htm]; simpa using hi.env.size, fun t x ht => ?_⟩, by simpa using hi.len, ?_, D'', hG.trans hD' hD'', hst'', ?_⟩
      · rw [htm, Array.getElem?_setIfInBounds_ne (fun e => hnb _ (get_mem ht) e.symm)]
        exact hi.env.at_ t x ht
      · intro c hc j hj
        rw [getD_set hsz] at hc ⊢
        rcases hc with rfl | hc
        · exact .inr (hdirs j hj)
        · exact .inr (hi.closed c hc j hj)
      · intro c hcm hc
        rw [getD_set hsz] at hc
        by_cases hci : c = i
        · subst hci
          refine ⟨d, v, F, by simp [dstE, ho, hdst], hF1, hv, hFv⟩
        · obtain ⟨d', v', F', h1, h2, h3, h4⟩ := hex c hcm (hc.resolve_left hci)
          refine ⟨d', v', F', h1, h2, ?_, ?_⟩
          · have hne : d ≠ d' := by
              rcases Nat.lt_or_ge c i with h | h
              · exact fun e => hnd c h d' h1 e.symm
              · obtain ⟨o', d2, ho', hd2, _, _, hnd', _⟩ := hop c hcm
                have : dstE l c = some d2 := by simp [dstE, ho', hd2]
                rw [this] at h1
                injection h1 with h1
                subst h1
                exact hnd' i (by omega) d (by simp [dstE, ho, hdst])
            rw [htm, Array.getElem?_setIfInBounds_ne hne]; exact h3
          · obtain ⟨F2, g1, g2, _⟩ := hF c hcm
            rw [g1] at h2
            injection h2 with h2
            subst h2
            exact g2 _ _ _ hD'' h4
    unfold wpOp
    have hg : l.toArray[i]? = some o := by simpa using ho
    rw [hg]
    simp only
    unfold wpList at hrun'
    split
    · rename_i hw
      rw [if_pos hw] at hrun'
      rcases hrun' with h1 | ⟨_, x, y, z, _⟩
      · refine .inl ?_
        have h2 : o.wp P a w (fun a' w' => LocQ R g D' M (o.dst.getD 0) F .normal a' w') (itp P Q k) := Oper.wp_monoP (fun a w h => h) (fun ex a w hne h => (hne h.1).elim) h1
        exact Oper.wp_mono (fun a' w' ⟨h3, h4⟩ => hinv a' w' h3 h4) (Oper.wp_put h2)
      · cases z
    · rename_i hw
      rw [if_neg hw] at hrun'
      exact hinv _ _ hrun' ⟨undef, rfl⟩
  · intro listed a w hi hall
    obtain ⟨D', hD', hst', hex⟩ := hi.ex
    obtain ⟨L0, hL0, hW0⟩ := hZ D' hD'
    obtain ⟨e', hrun, he'⟩ := hW0.use (a := a) (by
      intro p hp
      obtain ⟨j, hj, rfl⟩ := List.mem_map.1 (hL0 p hp)
      have hjm := List.mem_range.1 hj
      obtain ⟨d', v, F', h1, h2, h3, h4⟩ := hex j hjm (hall j hjm)
      refine ⟨v, by rw [h1]; exact h3, ?_⟩
      have : Fs.getD j (fun _ _ => False) = F' := by rw [List.getD_eq_getElem?_getD, h2]; rfl
      show Fs.getD j (fun _ _ => False) v D'
      rw [this]; exact h4)
    exact hrun a w ⟨hi.env.size, fun t v ht => by
      rcases get_append ht with h | h
      · exact he' t v (get_mem h)
      · exact hi.env.at_ t v h⟩ hi.defs hst'
/-! ### the same, quicker to reckon: the facts in a list, the last one first -/
abbrev Ent := Nat × Fct
def nthE : List Ent → Nat → Option Ent
  | [], _ => none
  | x :: _, 0 => some x
  | _ :: r, k + 1 => nthE r k
def selE (acc : List Ent) : List Nat → Option (List Ent)
  | [] => some []
  | p :: ps => match nthE acc p with
    | none => none
    | some x => match selE acc ps with
      | none => none
      | some r => some (x :: r)
def nthO : List Oper → Nat → Option Oper
  | [], _ => none
  | x :: _, 0 => some x
  | _ :: r, k + 1 => nthO r k
def preE (l : List Oper) (i : Nat) (acc : List Ent) (ps : List Nat) : Option (Nat × Oper × List Ent) := match nthO l i with
  | none => none
  | some o => match o.dst with
    | none => none
    | some d => match selE acc ps with
      | none => none
      | some L => some (d, o, L)
def depOk (l : List Oper) (m i : Nat) (ps : List Nat) : Bool := match nthO l i with
  | none => false
  | some o => ps.all fun p => Nat.blt p i && (depsE l m o).any (Nat.beq (i - 1 - p))
theorem nthE_get : ∀ {acc : List Ent} {p : Nat} {x : Ent}, nthE acc p = some x → acc[p]? = some x
  | _ :: _, 0, _, h => by simpa [nthE] using h
  | _ :: r, k + 1, _, h => by simpa using nthE_get (acc := r) (by simpa [nthE] using h)
theorem nthO_get : ∀ {l : List Oper} {p : Nat}, nthO l p = l[p]?
  | [], _ => by simp [nthO]
  | _ :: _, 0 => by simp [nthO]
  | _ :: r, k + 1 => by simpa [nthO] using nthO_get (l := r) (p := k)
theorem selE_mem : ∀ {acc : List Ent} {ps : List Nat} {L : List Ent}, selE acc ps = some L → ∀ x ∈ L, ∃ p ∈ ps, acc[p]? = some x
  | acc, [], L, h, x, hx => by simp [selE] at h; subst h; cases hx
  | acc, p :: ps, L, h, x, hx => by
    unfold selE at h
    split at h
    · cases h
    · rename_i y hy
      split at h
      · cases h
      · rename_i r hr
        injection h with h
        subst h
        rcases List.mem_cons.1 hx with rfl | hx
        · exact ⟨p, List.mem_cons_self .., nthE_get hy⟩
        · obtain ⟨q, h1, h2⟩ := selE_mem hr x hx
          exact ⟨q, List.mem_cons_of_mem _ h1, h2⟩
def okE (l : List Oper) : List Ent → Prop
  | [] => True
  | x :: r => dstE l r.length = some x.1 ∧ okE l r
theorem okE.get {l : List Oper} : ∀ {acc : List Ent}, okE l acc → ∀ {p : Nat} {x : Ent}, acc[p]? = some x → p < acc.length ∧ dstE l (acc.length - 1 - p) = some x.1
  | y :: r, h, 0, x, hx => by simp at hx; subst hx; exact ⟨by simp, by simpa using h.1⟩
  | y :: r, h, p + 1, x, hx => by
    obtain ⟨h1, h2⟩ := okE.get h.2 (p := p) (x := x) (by simpa using hx)
    refine ⟨by simp; omega, ?_⟩
    rw [show (y :: r).length - 1 - (p + 1) = r.length - 1 - p by simp; omega]; exact h2
theorem revGet {acc : List Ent} {p : Nat} {x : Ent} (h : acc[p]? = some x) (hp : p < acc.length) : (acc.reverse.map Prod.snd).getD (acc.length - 1 - p) (fun _ _ => False) = x.2 := by
  rw [List.getD_eq_getElem?_getD, List.getElem?_map, List.getElem?_reverse (by omega), show acc.length - 1 - (acc.length - 1 - p) = p by omega, h]; rfl
def TC (R : Dict → Dict → Prop) (P : Program) (n : Nat) (Q : Exit → Act → World → Prop) (g : Gl) (k : List It) (l : List Oper) (m : Nat) (base : Env) (D : Dict) (M : MList) (r i : Nat) (acc : List Ent) : Prop :=
  acc.length = i → i + r = m → okE l acc → Tele R P n g l m base D M (fun Fs => ∀ D', R D D' → ∃ L : List Ent, (∀ p ∈ L, p ∈ (List.range m).map fun j => ((dstE l j).getD 0, Fs.getD j (fun _ _ => False))) ∧ Wit L D' fun e' => Run P n Q g (.ops l.toArray (l.drop m) :: k) (e' ++ base) D' M) r (acc.reverse.map Prod.snd)
theorem TC.fct {l : List Oper} {m r i d : Nat} {base : Env} {acc L : List Ent} {o : Oper} (ps : List Nat) (h0 : preE l i acc ps = some (d, o, L)) (hd : depOk l m i ps = true) (F : Fct) (hF : MonoF R F)
    (h1 : ∀ D', R D D' → Wit L D' fun e => Run P n (LocQ R g D' M d F) g [.ops l.toArray [o]] (e ++ base) D' M) (h2 : TC R P n Q g k l m base D M r (i + 1) ((d, F) :: acc)) : TC R P n Q g k l m base D M (r + 1) i acc := by
  intro hlen hm hok
  unfold preE at h0
  rw [nthO_get] at h0
  unfold depOk at hd
  rw [nthO_get] at hd
  split at h0
  · cases h0
  · rename_i o' ho
    rw [ho] at hd
    simp only [List.all_eq_true, Bool.and_eq_true, Nat.blt_eq, List.any_eq_true] at hd
    split at h0
    · cases h0
    · rename_i d' hdst
      split at h0
      · cases h0
      · rename_i L' hL
        injection h0 with h0
        injection h0 with e1 h0
        injection h0 with e2 e3
        subst e1; subst e2; subst e3
        have hdl : dstE l acc.length = some d' := by rw [hlen]; simp [dstE, ho, hdst]
        refine ⟨F, hF, ?_, ?_⟩
        · unfold LocS
          have hil : (acc.reverse.map Prod.snd).length = i := by simpa using hlen
          rw [hil, ho]
          simp only
          intro D' hD'
          refine ⟨L', fun x hx => ?_, by rw [hdst]; exact h1 D' hD'⟩
          obtain ⟨p, hp, hpx⟩ := selE_mem hL x hx
          obtain ⟨hpl, hpd⟩ := hok.get hpx
          obtain ⟨hpi, q, hq, hqe⟩ := hd p hp
          have hqe' : i - 1 - p = q := Nat.eq_of_beq_eq_true hqe
          refine List.mem_map.2 ⟨i - 1 - p, hqe' ▸ hq, ?_⟩
          have e1 := revGet hpx hpl
          rw [hlen] at e1 hpd
          rw [hpd, e1]; rfl
        · have := h2 (by simp [hlen]) (by omega) ⟨hdl, hok⟩
          simpa using this
theorem TC.val {l : List Oper} {m r i d : Nat} {base : Env} {acc L : List Ent} {o : Oper} {V : Value} (ps : List Nat) (h0 : preE l i acc ps = some (d, o, L)) (hd : depOk l m i ps = true)
    (h1 : ∀ D', R D D' → Wit L D' fun e => Run P n (LocQ R g D' M d (fun v _ => V = v)) g [.ops l.toArray [o]] (e ++ base) D' M) (h2 : TC R P n Q g k l m base D M r (i + 1) ((d, fun v _ => V = v) :: acc)) : TC R P n Q g k l m base D M (r + 1) i acc :=
  TC.fct ps h0 hd _ (MonoF.eq V) h1 h2
theorem TC.fctM {l : List Oper} {m r i d : Nat} {base : Env} {acc L : List Ent} {o : Oper} {F : Fct} (ps : List Nat) (h0 : preE l i acc ps = some (d, o, L)) (hd : depOk l m i ps = true)
    (h1 : ∀ D', R D D' → Wit L D' fun e => Run P n (LocQ R g D' M d F) g [.ops l.toArray [o]] (e ++ base) D' M) (hF : MonoF R F) (h2 : TC R P n Q g k l m base D M r (i + 1) ((d, F) :: acc)) : TC R P n Q g k l m base D M (r + 1) i acc :=
  TC.fct ps h0 hd F hF h1 h2
theorem TC.fin {l rest : List Oper} {m : Nat} {base : Env} {acc : List Ent} (hr : l.drop m = rest) (h : ∀ D', R D D' → Wit acc D' fun e' => Run P n Q g (.ops l.toArray rest :: k) (e' ++ base) D' M) : TC R P n Q g k l m base D M 0 m acc := by
  intro hlen hm hok D' hD'
  refine ⟨acc, fun x hx => ?_, by rw [hr]; exact h D' hD'⟩
  obtain ⟨p, hp⟩ := List.getElem?_of_mem hx
  obtain ⟨hpl, hpd⟩ := hok.get hp
  refine List.mem_map.2 ⟨acc.length - 1 - p, List.mem_range.2 (by omega), ?_⟩
  rw [hpd, revGet hp hpl]; rfl
theorem Run.drawC {id : Nat} {l : List Oper} (hG : Grow R) (m : Nat) (base : Env) (hmix : P.follows .mixedOrders = true) (hok : drawOk l m n (base.map Prod.fst) = true) (hbase : e.Has base)
    (h : TC R P n Q g k l m base D M m 0 []) : Run P n Q g (.code (.region id l.toArray true) :: k) e D M :=
  Run.draw hG m base hmix hok hbase (h rfl (by omega) trivial)
end
end Go.Proofs.Ytgdpjpmjcpieiaa
