/- Slices that read as lists. No condition. -/
import Derived.Test.YtgdpjpmjcpieiaaShort
namespace Go.Proofs.Ytgdpjpmjcpieiaa
open Go
set_option linter.unusedVariables false
set_option linter.unusedSimpArgs false
/-- cells that never change any more -/
structure CsD (D : Dict) (b off sz : Nat) (us : List Value) : Prop where
  cs : ∃ c T fr, D b = some (.cells c T fr) ∧ ∀ j u, us[j]? = some u → c[off + j]? = some u
  len : us.length = sz
theorem CsD.mono {D D' : Dict} {b off sz : Nat} {us : List Value} (h : CsD D b off sz us) (hD : Le D D') : CsD D' b off sz us := by
  obtain ⟨⟨c, T, fr, h1, h2⟩, h3⟩ := h
  exact ⟨⟨c, T, fr, hD _ _ h1, h2⟩, h3⟩
theorem CsD.at0 {D : Dict} {M : MList} {b off sz : Nat} {us : List Value} (h : CsD D b off sz us) : CsN D M b off sz us := by
  obtain ⟨⟨c, T, fr, h1, h2⟩, h3⟩ := h
  exact ⟨⟨c, T, fr, .inl h1, h2⟩, h3⟩
theorem CsD.sub {D : Dict} {M : MList} {b off sz f m : Nat} {us vs : List Value} (h : CsD D b off sz us) (ht : takeN f m us = some vs) : CsN D M b (off + f) m vs := by
  obtain ⟨⟨c, T, fr, h1, h2⟩, h3⟩ := h
  obtain ⟨e1, e2⟩ := takeN_spec ht
  refine ⟨⟨c, T, fr, .inl h1, fun j u hu => ?_⟩, e1⟩
  have hj : j < m := by
    rcases Nat.lt_or_ge j vs.length with h | h
    · omega
    · rw [List.getElem?_eq_none h] at hu; cases hu
  rw [Nat.add_assoc]
  exact h2 _ _ (by rw [e2 j hj]; exact hu)
/-- v reads as the list xs, each element of sz cells -/
def Lst {α : Type} (D : Dict) (sz : Nat) (cells : α → List Value) (v : Value) (xs : List α) : Prop := Sl D sz v xs.length (xs.flatMap cells)
theorem Lst.mono {α : Type} {D D' : Dict} {sz : Nat} {cells : α → List Value} {v : Value} {xs : List α} (h : Lst D sz cells v xs) (hD : Le D D') : Lst D' sz cells v xs := Sl.mono h hD
theorem Lst.nil {α : Type} (D : Dict) (sz : Nat) (cells : α → List Value) : Lst D sz cells (.slice none 0 0) [] := Sl.nil D sz
theorem flat_at {α : Type} {cells : α → List Value} {sz : Nat} (hc : ∀ x, (cells x).length = sz) : ∀ (xs : List α) (i k : Nat) (x : α), xs[i]? = some x → k < sz → (xs.flatMap cells)[i * sz + k]? = (cells x)[k]?
  | [], i, k, x, h, _ => by simp at h
  | y :: r, 0, k, x, h, hk => by
    simp at h
    subst h
    rw [List.flatMap_cons, Nat.zero_mul, Nat.zero_add, List.getElem?_append_left (by rw [hc]; exact hk)]
  | y :: r, i + 1, k, x, h, hk => by
    rw [List.flatMap_cons, List.getElem?_append_right (by rw [hc, Nat.succ_mul]; omega), hc]
    rw [show (i + 1) * sz + k - sz = i * sz + k by rw [Nat.succ_mul]; omega]
    exact flat_at hc r i k x (by simpa using h) hk
theorem flat_len {α : Type} {cells : α → List Value} {sz : Nat} (hc : ∀ x, (cells x).length = sz) (xs : List α) : (xs.flatMap cells).length = xs.length * sz := by
  induction xs with
  | nil => simp
  | cons x r ih => rw [List.flatMap_cons, List.length_append, hc, ih, List.length_cons, Nat.succ_mul]; omega
/-- element i of v lies there -/
def IxAt (v : Value) (i sz b off : Nat) : Prop := ∃ o0 l c, v = .slice (some ⟨b, o0, none⟩) l c ∧ i < l ∧ off = o0 + i * sz
theorem Lst.at {α : Type} {D : Dict} {sz : Nat} {cells : α → List Value} {v : Value} {xs : List α} (h : Lst D sz cells v xs) (hc : ∀ x, (cells x).length = sz) {i : Nat} {x : α} (hi : xs[i]? = some x) : ∃ b off, IxAt v i sz b off ∧ CsD D b off sz (cells x) := by
  have hlt : i < xs.length := by
    rcases Nat.lt_or_ge i xs.length with h | h
    · exact h
    · rw [List.getElem?_eq_none h] at hi; cases hi
  obtain ⟨h1, hn, A, cap, rfl, h3, h4⟩ := h
  obtain ⟨b, o0, c, T, fr, rfl, e2, e3⟩ := h4 (by omega)
  refine ⟨b, o0 + i * sz, ⟨o0, _, cap, rfl, hlt, rfl⟩, ⟨c, T, fr, e2, fun j u hu => ?_⟩, hc x⟩
  have hj : j < sz := by
    rcases Nat.lt_or_ge j (cells x).length with h | h
    · rw [hc] at h; exact h
    · rw [List.getElem?_eq_none h] at hu; cases hu
  rw [Nat.add_assoc]
  exact e3 _ _ (by rw [flat_at hc xs i j x hi hj]; exact hu)
theorem Lst.form {α : Type} {D : Dict} {sz : Nat} {cells : α → List Value} {v : Value} {xs : List α} (h : Lst D sz cells v xs) : ∃ A cap, v = .slice A xs.length cap ∧ xs.length ≤ cap ∧ xs.length ≤ 9223372036854775807 := by
  obtain ⟨_, hn, A, cap, h2, h3, _⟩ := h
  exact ⟨A, cap, h2, h3, by simpa [maxLen] using hn⟩
theorem Src.at {α : Type} {D : Dict} {M : MList} {sz : Nat} {cells : α → List Value} {v : Value} {xs : List α} {fl : List Value} (h : Src D M sz v xs.length fl) (hf : fl = xs.flatMap cells) (hc : ∀ x, (cells x).length = sz) {i : Nat} {x : α} (hi : xs[i]? = some x) : ∃ b off, IxAt v i sz b off ∧ CsN D M b off sz (cells x) := by
  subst hf
  have hlt : i < xs.length := by
    rcases Nat.lt_or_ge i xs.length with h | h
    · exact h
    · rw [List.getElem?_eq_none h] at hi; cases hi
  obtain ⟨h1, A, cap, rfl, h4⟩ := h
  obtain ⟨b, o0, rfl, c, T, fr, e2, e3⟩ := h4 (by omega)
  refine ⟨b, o0 + i * sz, ⟨o0, _, cap, rfl, hlt, rfl⟩, ⟨c, T, fr, e2, fun j u hu => ?_⟩, hc x⟩
  have hj : j < sz := by
    rcases Nat.lt_or_ge j (cells x).length with h | h
    · rw [hc] at h; exact h
    · rw [List.getElem?_eq_none h] at hu; cases hu
  rw [Nat.add_assoc]
  exact e3 _ _ (by rw [flat_at hc xs i j x hi hj]; exact hu)
/-- a fresh row reads as what was written into it -/
theorem Src.lit {D : Dict} {M : MList} {b sz m c : Nat} {T : TypeId} {fr : Nat × Nat} {cs : List Value} (h : (b, Obj.cells cs.toArray T fr) ∈ M) (hl : cs.length = m * sz) : Src D M sz (.slice (some ⟨b, 0, none⟩) m c) m cs :=
  ⟨hl, _, _, rfl, fun _ => ⟨b, 0, rfl, _, T, fr, .inr h, fun j u hu => by simpa using hu⟩⟩
theorem Lst.src {α : Type} {D : Dict} {sz : Nat} {cells : α → List Value} {v : Value} {xs : List α} (h : Lst D sz cells v xs) (M : MList) : Src D M sz v xs.length (xs.flatMap cells) := Sl.src h M
theorem St.le {g : Gl} {w : World} {D D0 : Dict} {M : MList} (h : St g w D M) (hl : Le D0 D) : St g w D0 M := by
  refine ⟨h.os, h.out, h.tape, fun b o hb => h.imm b o (hl b o hb), h.mt, h.nd, fun p hp => ?_, h.drw⟩
  have h1 := h.dis p hp
  cases hq : D0 p.1 with
  | none => rfl
  | some o => rw [hl _ _ hq] at h1; cases h1
/-- a call whose answer is told, what it leads to new, and never written again -/
def Gets (P : Program) (g : Gl) (f : FuncId) (vs : List Value) (D : Dict) (M : MList) (F : Value → Dict → Prop) : Prop := Spec P g f vs D M (fun v D' M' => Le D D' ∧ M' = M ∧ F v D')
theorem Gives.gets {P : Program} {g : Gl} {f : FuncId} {vs : List Value} {D : Dict} {M : MList} {v : Value} {F : Value → Dict → Prop} (h : Gives P g f vs D M v) (hF : F v D) : Gets P g f vs D M F :=
  Spec.mono h fun _ _ _ ⟨h1, h2, h3⟩ => ⟨h2 ▸ Le.rfl', h3, by rw [h1, h2]; exact hF⟩
theorem ins_self {D : Dict} {b : Nat} {o : Obj} : ins D b o b = some o := by simp [ins]
/-- a fresh row, never written again, reads as a list -/
theorem Lst.lit {α : Type} {D : Dict} {sz : Nat} {cells : α → List Value} {b m c : Nat} {T : TypeId} {fr : Nat × Nat} {cs : List Value} (xs : List α) (h : D b = some (.cells cs.toArray T fr)) (hcs : cs = xs.flatMap cells) (hc : ∀ x, (cells x).length = sz) (hm : m = xs.length) (h1 : m ≤ c) (h2 : m ≤ maxLen) :
    Lst D sz cells (.slice (some ⟨b, 0, none⟩) m c) xs := by
  subst hcs; subst hm
  exact ⟨flat_len hc xs, h2, _, _, rfl, h1, fun _ => ⟨b, 0, _, T, fr, rfl, h, fun j u hu => by simpa using hu⟩⟩
/-- ints -/
abbrev ints (xs : List Int) : List Value := xs.map (Value.int .i64 ·)
theorem ints_flat (xs : List Int) : ints xs = xs.flatMap (fun x => [Value.int .i64 x]) := by induction xs with
  | nil => rfl
  | cons x r ih => rw [List.flatMap_cons, ← ih]; rfl
abbrev Ints (D : Dict) (v : Value) (xs : List Int) : Prop := Lst D 1 (fun x => [Value.int .i64 x]) v xs
section
variable {P : Program} {n : Nat} {Q : Exit → Act → World → Prop} {g : Gl} {k : List It} {e : Env} {D : Dict} {M : MList}
  {all : Array Oper} {rest : List Oper} {dst : Option Nat} {ty : TypeId} {pos : String} {af : Array Edge}
theorem R.ix {t el : TypeId} {x io : Operand} {v : Value} {i b off sz : Nat} {j : Int} {kd : IntKind} (hI : IxAt v i sz b off) (hu : ∀ w, (underlying t).run P w = .ok (.slice el) w) (hS : ∀ w, (sizeOf el).run P w = .ok sz w)
    (h : Run P n Q g (.ops all rest :: k) (e.put dst (.pointer (some ⟨b, off, none⟩))) D M) (hx : e.ev x = some v := by rfl) (hi : e.ev io = some (.int kd j) := by rfl) (hj : j = (i : Int) := by first | rfl | omega | (dsimp only; omega) | (simp at *; omega)) (hd : dstOk n dst = true := by rfl) :
    Run P n Q g (.ops all (⟨dst, .indexAddr t x io, ty, pos, af, none⟩ :: rest) :: k) e D M := by
  obtain ⟨o0, l, c, rfl, h1, rfl⟩ := hI
  subst hj
  exact Run.indexAddr hu hS hx hi (by omega) (by omega) hd (by rw [Int.toNat_natCast]; exact h)
/-- the length of what reads as a list -/
theorem R.ll {α : Type} {sz : Nat} {cells : α → List Value} {xs : List α} {t : TypeId} {x : Operand} {v : Value} {el : TypeId} (hL : Lst D sz cells v xs) (hu : ∀ w, (underlying t).run P w = .ok (.slice el) w) (h : Run P n Q g (.ops all rest :: k) (e.put dst (.int .i64 (xs.length : Int))) D M) (hx : e.ev x = some v := by rfl) (hd : dstOk n dst = true := by rfl) :
    Run P n Q g (.ops all (⟨dst, .call { callee := .builtin .len, args := #[x], argTypes := #[t] }, ty, pos, af, none⟩ :: rest) :: k) e D M := by
  obtain ⟨A, cap, rfl, _, _⟩ := hL.form
  exact Run.len hu hx hd h
theorem R.ldD {t : TypeId} {x : Operand} {b off : Nat} {v : Value} (hA : ∀ w, (isAgg t).run P w = .ok false w) (h : Run P n Q g (.ops all rest :: k) (e.put dst v) D M) (hx : e.ev x = some (.pointer (some ⟨b, off, none⟩)) := by rfl)
    (hc : CsN D M b off 1 [v] := by first | exact CsD.sub (by assumption) rfl | exact CsD.at0 (by assumption) | assumption | (rw [Nat.add_assoc]; exact CsD.sub (by assumption) rfl))
    (hd : dstOk n dst = true := by rfl) : Run P n Q g (.ops all (⟨dst, .load t x, ty, pos, af, none⟩ :: rest) :: k) e D M := Run.load1 hA hx hc.cs hd h
theorem R.lAD {t : TypeId} {x : Operand} {b off : Nat} {vs : List Value} (sz : Nat) (hA : ∀ w, (isAgg t).run P w = .ok true w) (hS : ∀ w, (sizeOf t).run P w = .ok sz w) (h : Run P n Q g (.ops all rest :: k) (e.put dst (.agg vs.toArray)) D M) (hx : e.ev x = some (.pointer (some ⟨b, off, none⟩)) := by rfl)
    (hc : CsN D M b off sz vs := by first | exact CsD.at0 (by assumption) | exact CsD.sub (by assumption) rfl | assumption | (rw [Nat.add_assoc]; exact CsD.sub (by assumption) rfl))
    (hd : dstOk n dst = true := by rfl) : Run P n Q g (.ops all (⟨dst, .load t x, ty, pos, af, none⟩ :: rest) :: k) e D M := Run.loadA hA (hc.len ▸ hS) hx hc.cs hd h
/-- the end of a function that tells a value; what is new and never written is left behind too -/
theorem R.rl {fn : Func} {v u : Value} {vs : List Value} {M0 : MList} {D0 : Dict} (hr : RVs P e D M fn.results.toList vs) (j : Nat) (hl : Le D0 D) (hv : u = v) (hu : oneO vs = some u := by rfl) (hM : M.drop j = M0 := by rfl) :
    Run P n (bodyPost P fn (fun ex w' => ∃ v' D' M', ex = .returned v' ∧ St g w' D' M' ∧ (v' = v ∧ D' = D0 ∧ M' = M0))) g (.code .ret :: k) e D M :=
  fun a w he hd hs => wp_ret (itp_ret (k := k) (Q := bodyPost P fn _) ⟨hd, _, hr.run he hs, ⟨_, D0, M0, rfl, hM ▸ (hs.drop j).le hl, (oneO_eq hu).trans hv, rfl, rfl⟩⟩)
theorem R.gt {args : List Operand} {tys : Array TypeId} {f : FuncId} {vs : List Value} {F : Value → Dict → Prop} (hf : ∀ args w, (callFunc f args).run P w = .ok (.enter f args) w) (hc : Gets P g f vs D M F) (h : ∀ v D', Le D D' → F v D' → Run P n Q g (.ops all rest :: k) (e.put dst v) D' M)
    (ha : e.evs args = some vs := by rfl) (hd : dstOk n dst = true := by rfl) : Run P n Q g (.ops all (⟨dst, .call { callee := .value (.func f), args := args.toArray, argTypes := tys }, ty, pos, af, none⟩ :: rest) :: k) e D M :=
  Run.call hf ha hd hc (fun _ _ _ ⟨h1, h2, h3⟩ => by subst h2; exact h _ _ h1 h3)
theorem Gets.enter {f : FuncId} {fn : Func} {c : Code} {vs : List Value} {F : Value → Dict → Prop} (hf : P.funcs[f]? = some fn) (hb : fn.body = some c) (hn : fn.ntmps = n)
    (h : Run P n (bodyPost P fn (fun ex w' => ∃ v' D' M', ex = .returned v' ∧ St g w' D' M' ∧ (Le D D' ∧ M' = M ∧ F v' D'))) g [.code c] (argEnv 0 vs) D M) (hl : Nat.ble vs.length n = true := by rfl) : Gets P g f vs D M F := Spec.enter hf hb hn hl h
end
end Go.Proofs.Ytgdpjpmjcpieiaa
