/- Rows of the call's own: appended to, read, written. No condition. -/
import Derived.Test.YtgdpjpmjcpieiaaList
namespace Go.Proofs.Ytgdpjpmjcpieiaa
open Go
set_option linter.unusedVariables false
set_option linter.unusedSimpArgs false
/-- a row of one's own that reads as a list -/
def OL {α : Type} (sz : Nat) (cells : α → List Value) (T : TypeId) (v : Value) (xs : List α) (q : MList) : Prop := Own sz T v xs.length (xs.flatMap cells) q
section
variable {α : Type} {sz : Nat} {cells : α → List Value} {T : TypeId} {v : Value} {xs : List α} {q : MList}
theorem OL.nil : OL sz cells T (.slice none 0 0) ([] : List α) [] := Own.nil sz T
theorem OL.cat {ys : List α} {m : Nat} {fl : List Value} (h : Own sz T v (xs.length + m) (xs.flatMap cells ++ fl) q) (hm : m = ys.length) (hf : fl = ys.flatMap cells) : OL sz cells T v (xs ++ ys) q := by
  subst hm; subst hf
  unfold OL
  rw [List.length_append, List.flatMap_append]; exact h
theorem OL.snoc {x : α} {fl : List Value} (h : Own sz T v (xs.length + 1) (xs.flatMap cells ++ fl) q) (hf : fl = cells x) : OL sz cells T v (xs ++ [x]) q :=
  OL.cat (ys := [x]) h rfl (by simp [hf])
theorem OL.form (h : OL sz cells T v xs q) : ∃ A c, v = .slice A xs.length c ∧ xs.length ≤ maxLen := by
  rcases h.2 with ⟨h1, h2, h3⟩ | ⟨b, cap, cur, h1, h2, h3, h4, h5, h6⟩
  · exact ⟨none, 0, by rw [h1, h2], by rw [h2]; simp [maxLen]⟩
  · exact ⟨_, _, h1, Nat.le_trans h3 h4⟩
theorem OL.src {M : MList} {D : Dict} (h : OL sz cells T v xs q) (hM : ∀ p ∈ q, p ∈ M) : Src D M sz v xs.length (xs.flatMap cells) := Own.src h hM
theorem OL.at {M : MList} {D : Dict} (h : OL sz cells T v xs q) (hM : ∀ p ∈ q, p ∈ M) (hc : ∀ x, (cells x).length = sz) {i : Nat} {x : α} (hi : xs[i]? = some x) : ∃ b off, IxAt v i sz b off ∧ CsN D M b off sz (cells x) :=
  (h.src hM).at rfl hc hi
theorem layN_ok : ∀ {k : Nat} {l vs : List Value}, k + vs.length ≤ l.length → layN k l vs = some (l.take k ++ vs ++ l.drop (k + vs.length))
  | 0, l, [], _ => by cases l <;> simp [layN]
  | 0, [], _ :: _, h => by simp at h
  | 0, x :: r, v :: vs, h => by
    unfold layN
    rw [layN_ok (k := 0) (l := r) (vs := vs) (by simp at h ⊢; exact h)]
    simp
  | k + 1, [], vs, h => by simp at h
  | k + 1, x :: r, vs, h => by
    unfold layN
    rw [layN_ok (k := k) (l := r) (vs := vs) (by simp at h; omega)]
    simp [Nat.add_right_comm k 1]
theorem flat_set (hc : ∀ x, (cells x).length = sz) : ∀ (xs : List α) (i : Nat) (y : α), i < xs.length → (xs.set i y).flatMap cells = (xs.flatMap cells).take (i * sz) ++ cells y ++ (xs.flatMap cells).drop (i * sz + sz)
  | [], i, y, h => by simp at h
  | x :: r, 0, y, h => by simp [← hc x]
  | x :: r, i + 1, y, h => by
    rw [List.set_cons_succ, List.flatMap_cons, flat_set hc r i y (by simpa using h), List.flatMap_cons, List.take_append, List.drop_append, hc]
    have h1 : (i + 1) * sz - sz = i * sz := by rw [Nat.succ_mul]; omega
    have h2 : (i + 1) * sz + sz - sz = i * sz + sz := by rw [Nat.succ_mul]; omega
    rw [h1, h2, List.take_of_length_le (l := cells x) (by rw [hc, Nat.succ_mul]; omega), List.drop_of_length_le (l := cells x) (by rw [hc, Nat.succ_mul]; omega)]
    simp
theorem OL.set (h : OL sz cells T v xs q) (hc : ∀ x, (cells x).length = sz) {i b off : Nat} (hI : IxAt v i sz b off) (y : α) (R : MList) :
    ∃ l l' q', MSet (q ++ R) b (.cells l.toArray T (0, 0)) (.cells l'.toArray T (0, 0)) (q' ++ R) ∧ layN off l (cells y) = some l' ∧ OL sz cells T v (xs.set i y) q' := by
  obtain ⟨o0, l0, c0, rfl, hi, rfl⟩ := hI
  rcases h.2 with ⟨h1, h2, h3⟩ | ⟨b', cap, cur, h1, h2, h3, h4, h5, h6⟩
  · cases h1
  · injection h1 with e1 e2 e3
    injection e1 with e1
    injection e1 with e4 e5
    subst e4; subst e5; subst e2; subst h2
    have e3' := e3.symm
    subst e3'
    have hle : xs.length * sz ≤ cap * sz := Nat.mul_le_mul_right sz h3
    have his : i * sz + sz ≤ xs.length * sz := by rw [← Nat.succ_mul]; exact Nat.mul_le_mul_right sz hi
    have hl : 0 + i * sz + (cells y).length ≤ cur.toList.length := by rw [hc, Array.length_toList, h5]; omega
    have hl0 := layN_ok hl
    generalize hl' : List.take (0 + i * sz) cur.toList ++ cells y ++ List.drop (0 + i * sz + (cells y).length) cur.toList = l' at hl0
    refine ⟨cur.toList, l', [(b, .cells l'.toArray T (0, 0))], ?_, hl0, ?_⟩
    · exact .here ..
    subst hl'
    refine ⟨by rw [flat_len hc], .inr ⟨b, cap, _, by simp, rfl, by simpa using h3, h4, ?_, ?_⟩⟩
    · simp only [List.size_toArray, List.length_append, List.length_take, List.length_drop, Array.length_toList, hc, h5]
      omega
    · have hfl := flat_set (sz := sz) hc xs i y hi
      rw [hfl, ← h6]
      simp only [List.length_set, hc, Nat.zero_add]
      have hlen1 : (cur.toList.take (i * sz)).length = i * sz := by rw [List.length_take, Array.length_toList, h5]; omega
      rw [List.append_assoc, List.append_assoc, List.take_append, List.take_append, hlen1, hc, List.take_take, Nat.min_eq_right (by omega), List.take_of_length_le (l := cells y) (by rw [hc]; omega)]
      rw [List.take_take, Nat.min_eq_left (by omega), List.drop_take]
      congr 3
      omega
theorem swap_perm {i j : Nat} {x y : α} (hx : xs[i]? = some x) (hy : xs[j]? = some y) : ((xs.set i y).set j x).Perm xs := by
  have h1 : i < xs.length := by
    rcases Nat.lt_or_ge i xs.length with h1 | h1
    · exact h1
    · rw [List.getElem?_eq_none h1] at hx; cases hx
  have h2 : j < xs.length := by
    rcases Nat.lt_or_ge j xs.length with h1 | h1
    · exact h1
    · rw [List.getElem?_eq_none h1] at hy; cases hy
  rw [List.getElem?_eq_getElem h1] at hx
  rw [List.getElem?_eq_getElem h2] at hy
  injection hx with hx
  injection hy with hy
  subst hx; subst hy
  exact List.set_set_perm h1 h2
end
section
variable {P : Program} {n : Nat} {Q : Exit → Act → World → Prop} {g : Gl} {k : List It} {e : Env} {D : Dict} {M : MList}
  {all : Array Oper} {rest : List Oper} {dst : Option Nat} {ty : TypeId} {pos : String} {af : Array Edge}
/-- an element is written -/
theorem R.so {α : Type} {sz : Nat} {cells : α → List Value} {T t : TypeId} {v : Value} {xs : List α} {q R : MList} {x y : Operand} {i b off : Nat} {u : Value} (z : α) (ho : OL sz cells T v xs q) (hI : IxAt v i sz b off) (hc : ∀ x, (cells x).length = sz) (hS : ∀ w, (sizeOf t).run P w = .ok sz w)
    (h : ∀ q', OL sz cells T v (xs.set i z) q' → Run P n Q g (.ops all rest :: k) (e.put dst undef) D (q' ++ R)) (hx : e.ev x = some (.pointer (some ⟨b, off, none⟩)) := by rfl) (hy : e.ev y = some u := by rfl) (hu : u.cells.toList = cells z := by rfl)
    (h1 : (cells z).all (·.oneCell') = true := by rfl) (hd : dstOk n dst = true := by rfl) : Run P n Q g (.ops all (⟨dst, .store t x y, ty, pos, af, none⟩ :: rest) :: k) e D (q ++ R) := by
  obtain ⟨l, l', q', hm, hl, ho'⟩ := ho.set hc hI z R
  have hsz : u.cells.size = sz := by rw [← Array.length_toList, hu, hc]
  exact Run.storeL (hsz ▸ hS) hx hy (fun w hw => by rw [hu] at hw; exact List.all_eq_true.1 h1 w hw) (by rw [hu]; exact hl) hm hd (h q' ho')
/-- append to a row of one's own -/
theorem R.ap {t T : TypeId} {s x : Operand} {i : TypeInfo} {z v xv : Value} {sz bytes l m : Nat} {fl xs : List Value} {q R : MList} (ht : P.underlying t = some (.slice T)) (hi : P.info? T = some i) (ho : Own sz T v l fl q) (hM : M.Perm (q ++ R)) (hsrc : Src D (q ++ R) sz xv m xs) (hlm : l + m ≤ 1000000)
    (h1 : ∀ u ∈ xs, u.oneCell' = true) (h : ∀ v' q', Own sz T v' (l + m) (fl ++ xs) q' → Run P n Q g (.ops all rest :: k) (e.put dst v') D (q' ++ R))
    (hz : i.zero = some z := by rfl) (hsize : i.size = sz := by rfl) (hby : i.bytes = bytes := by rfl) (hzs : z.cells.size = sz := by rfl) (hsz : 0 < sz := by decide) (hb : bytes ≤ 1000 := by decide) (hv : e.ev s = some v := by rfl) (hx : e.ev x = some xv := by rfl) (hd : dstOk n dst = true := by rfl) :
    Run P n Q g (.ops all (⟨dst, .call { callee := .builtin .append, args := #[s, x], argTypes := #[t, t] }, ty, pos, af, none⟩ :: rest) :: k) e D M :=
  Run.append ht hi hz hsize hby hzs hsz hv hx hM ho hsrc h1 (by simp [maxLen]; omega) (Nat.le_trans (Nat.mul_le_mul hlm hb) (by decide)) hd h
theorem ones {xs : List Value} (h : xs.all (·.oneCell') = true := by rfl) : ∀ u ∈ xs, u.oneCell' = true := fun u hu => List.all_eq_true.1 h u hu
theorem onesF {α : Type} {cells : α → List Value} {xs : List α} (h : ∀ x, ∀ u ∈ cells x, u.oneCell' = true) : ∀ u ∈ xs.flatMap cells, u.oneCell' = true := by
  intro u hu
  obtain ⟨x, _, hx⟩ := List.mem_flatMap.1 hu
  exact h x u hx
/-- the row at the front, what is new put behind it -/
theorem permQ {a q r : MList} : (a ++ (q ++ r)).Perm (q ++ (a ++ r)) := by
  rw [← List.append_assoc, ← List.append_assoc]; exact List.Perm.append_right r List.perm_append_comm
theorem St.dropMid {w : World} {a q r : MList} (h : St g w D (q ++ (a ++ r))) : St g w D (q ++ r) := h.sub (List.Sublist.append_left (List.sublist_append_right a r) q)
/-- a call of a function value -/
theorem R.cy {x : Operand} {args : List Operand} {tys : Array TypeId} {f : FuncId} {fs cap vs ws : List Value} {v : Value} (hf : ∀ args w, (callFunc f args).run P w = .ok (.enter f args) w) (hc : Gives P g f ws D M v) (h : Run P n Q g (.ops all rest :: k) (e.put dst v) D M)
    (hx : e.ev x = some (.func (.func f) fs.toArray cap.toArray) := by rfl) (ha : e.evs args = some vs := by rfl) (hw : fs ++ vs ++ cap = ws := by rfl) (hd : dstOk n dst = true := by rfl) : Run P n Q g (.ops all (⟨dst, .call { callee := .value x, args := args.toArray, argTypes := tys }, ty, pos, af, none⟩ :: rest) :: k) e D M :=
  Run.callV hf hx ha hd (hw ▸ hc) (fun _ _ _ ⟨h1, h2, h3⟩ => by subst h1; subst h2; subst h3; exact h)
/-- min of two ints -/
theorem R.mn {x y : Operand} {tys : Array TypeId} {kd : IntKind} {a b r : Int} (hr : (if b < a then b else a) = r) (h : Run P n Q g (.ops all rest :: k) (e.put dst (.int kd r)) D M) (hx : e.ev x = some (.int kd a) := by rfl) (hy : e.ev y = some (.int kd b) := by rfl) (hd : dstOk n dst = true := by rfl) :
    Run P n Q g (.ops all (⟨dst, .call { callee := .builtin .min, args := #[x, y], argTypes := tys }, ty, pos, af, none⟩ :: rest) :: k) e D M :=
  Run.val _ hd (fun a' he w hs => by
    have hm : (Builtin.min_ tys ty #[.int kd a, .int kd b]).run P w = .ok (.int kd (if b < a then b else a)) w := by simp [Builtin.min_, Builtin.min2]
    rw [hr] at hm
    simp [execOp, resolve, he.ev hx, he.ev hy, Sem.run_bind, Sem.run_pure, invoke, builtin, hm, Result.andThen_ok]) h
end
end Go.Proofs.Ytgdpjpmjcpieiaa
