/- The engine's rules for calls, builtins, slices. No condition. -/
import Derived.Test.YtgdpjpmjcpieiaaMem
namespace Go.Proofs.Ytgdpjpmjcpieiaa
open Go
set_option linter.unusedVariables false
set_option linter.unusedSimpArgs false

/-! ### 1. Contracts -/
/-- called so in such a world, a function returns; K tells what, and what holds then -/
def Spec (P : Program) (g : Gl) (f : FuncId) (vs : List Value) (D : Dict) (M : MList) (K : Value → Dict → MList → Prop) : Prop :=
  ∀ w, St g w D M → Calls P f vs.toArray w (fun ex w' => ∃ v D' M', ex = .returned v ∧ St g w' D' M' ∧ K v D' M')
theorem Spec.mono {P : Program} {g : Gl} {f : FuncId} {vs : List Value} {D : Dict} {M : MList} {K K' : Value → Dict → MList → Prop} (h : Spec P g f vs D M K) (hK : ∀ v D' M', K v D' M' → K' v D' M') : Spec P g f vs D M K' :=
  fun w hs => (h w hs).mono fun _ _ ⟨v, D', M', h1, h2, h3⟩ => ⟨v, D', M', h1, h2, hK _ _ _ h3⟩
theorem Spec.st {P : Program} {g : Gl} {f : FuncId} {vs : List Value} {D D0 : Dict} {M M0 : MList} {K : Value → Dict → MList → Prop} (hst : ∀ w, St g w D M → St g w D0 M0) (h : Spec P g f vs D0 M0 K) : Spec P g f vs D M K :=
  fun w hs => h w (hst w hs)
/-- the frame that a function begins with -/
def argEnv : Nat → List Value → Env
  | _, [] => []
  | i, v :: r => (i, v) :: argEnv (i + 1) r
theorem argEnv_get : ∀ (vs : List Value) (i t : Nat) (v : Value), (argEnv i vs).get t = some v → ∃ j, t = i + j ∧ vs[j]? = some v
  | [], _, _, _, h => by cases h
  | u :: r, i, t, v, h => by
    unfold argEnv Env.get at h
    split at h
    · rename_i hb
      injection h with h
      exact ⟨0, by rw [← Nat.eq_of_beq_eq_true hb]; rfl, by simp [h]⟩
    · obtain ⟨j, h1, h2⟩ := argEnv_get r (i + 1) t v h
      exact ⟨j + 1, by omega, by simpa using h2⟩
theorem Spec.enter {P : Program} {g : Gl} {f : FuncId} {fn : Func} {c : Code} {vs : List Value} {n : Nat} {D : Dict} {M : MList} {K : Value → Dict → MList → Prop} (hf : P.funcs[f]? = some fn) (hb : fn.body = some c) (hn : fn.ntmps = n) (hl : Nat.ble vs.length n = true)
    (h : Run P n (bodyPost P fn (fun ex w' => ∃ v D' M', ex = .returned v ∧ St g w' D' M' ∧ K v D' M')) g [.code c] (argEnv 0 vs) D M) : Spec P g f vs D M K := by
  intro w hs
  have hl' : vs.length ≤ n := Nat.le_of_ble_eq_true hl
  refine calls_of_wp hf hb ?_
  refine h _ w ⟨?_, fun t v ht => ?_⟩ rfl hs
  · simp [hn]; omega
  · obtain ⟨j, h1, h2⟩ := argEnv_get vs 0 t v ht
    have hj : j < vs.length := by
      rcases Nat.lt_or_ge j vs.length with h | h
      · exact h
      · rw [List.getElem?_eq_none h] at h2; cases h2
    have : t = j := by omega
    subst this
    rw [Array.getElem?_append_left (by simpa using hj)]
    simpa using h2

section
variable {P : Program} {n : Nat} {Q : Exit → Act → World → Prop} {g : Gl} {k : List It} {e : Env} {D : Dict} {M : MList}
  {all : Array Oper} {rest : List Oper} {dst : Option Nat} {ty : TypeId} {pos : String} {af : Array Edge}

theorem Run.callV {x : Operand} {args : List Operand} {tys : Array TypeId} {f : FuncId} {fs cap vs : List Value} {K : Value → Dict → MList → Prop} (hf : ∀ args w, (callFunc f args).run P w = .ok (.enter f args) w)
    (hx : e.ev x = some (.func (.func f) fs.toArray cap.toArray)) (ha : e.evs args = some vs) (hd : dstOk n dst = true)
    (hc : Spec P g f (fs ++ vs ++ cap) D M K) (h : ∀ v D' M', K v D' M' → Run P n Q g (.ops all rest :: k) (e.put dst v) D' M') :
    Run P n Q g (.ops all (⟨dst, .call { callee := .value x, args := args.toArray, argTypes := tys }, ty, pos, af, none⟩ :: rest) :: k) e D M := by
  intro a w he hdf hs
  show wpList P all (itp P Q k) _ a w
  refine wpList_plain rfl fun K' hK => ?_
  unfold Oper.wp
  have hr : (execOp a.eval ⟨dst, .call { callee := .value x, args := args.toArray, argTypes := tys }, ty, pos, af, none⟩).run P w = .ok (.enter f (fs ++ vs ++ cap).toArray) w := by
    simp only [execOp, resolve, he.ev hx, List.map_toArray, he.evs ha, Deferred.ofValue, Sem.run_bind, pure, Sem.run, Result.andThen_ok, invoke]
    rw [← hf]
    simp
  rw [hr, Oper.upon_enter]
  refine (hc w hs).mono fun ex w' ⟨v, D', M', h1, h2, h3⟩ => ?_
  subst h1
  exact hK _ _ (h v D' M' h3 _ _ (he.put hd v) (by rw [Act.put_defers']; exact hdf) h2)
theorem Run.call {args : List Operand} {tys : Array TypeId} {f : FuncId} {vs : List Value} {K : Value → Dict → MList → Prop} (hf : ∀ args w, (callFunc f args).run P w = .ok (.enter f args) w)
    (ha : e.evs args = some vs) (hd : dstOk n dst = true) (hc : Spec P g f vs D M K) (h : ∀ v D' M', K v D' M' → Run P n Q g (.ops all rest :: k) (e.put dst v) D' M') :
    Run P n Q g (.ops all (⟨dst, .call { callee := .value (.func f), args := args.toArray, argTypes := tys }, ty, pos, af, none⟩ :: rest) :: k) e D M :=
  Run.callV (fs := []) (cap := []) hf rfl ha hd (by simpa using hc) h

/-! ### 2. Builtins -/
theorem Run.len {t : TypeId} {x : Operand} {A : Option Addr} {l c : Nat} {el : TypeId} (hu : ∀ w, (underlying t).run P w = .ok (.slice el) w) (hx : e.ev x = some (.slice A l c)) (hd : dstOk n dst = true)
    (h : Run P n Q g (.ops all rest :: k) (e.put dst (.int .i64 l)) D M) : Run P n Q g (.ops all (⟨dst, .call { callee := .builtin .len, args := #[x], argTypes := #[t] }, ty, pos, af, none⟩ :: rest) :: k) e D M :=
  Run.val _ hd (fun a he w hs => by
    simp [execOp, resolve, he.ev hx, Sem.run_bind, Sem.run_pure, invoke, builtin, Builtin.len_, hu, goInt, Result.andThen_ok]) h
theorem Run.cap {t : TypeId} {x : Operand} {A : Option Addr} {l c : Nat} {el : TypeId} (hu : ∀ w, (underlying t).run P w = .ok (.slice el) w) (hx : e.ev x = some (.slice A l c)) (hd : dstOk n dst = true)
    (h : Run P n Q g (.ops all rest :: k) (e.put dst (.int .i64 c)) D M) : Run P n Q g (.ops all (⟨dst, .call { callee := .builtin .cap, args := #[x], argTypes := #[t] }, ty, pos, af, none⟩ :: rest) :: k) e D M :=
  Run.val _ hd (fun a he w hs => by
    simp [execOp, resolve, he.ev hx, Sem.run_bind, Sem.run_pure, invoke, builtin, Builtin.cap_, hu, goInt, Result.andThen_ok]) h
/-- what is appended: cells that can be read -/
def Src (D : Dict) (M : MList) (sz : Nat) (x : Value) (m : Nat) (xs : List Value) : Prop :=
  xs.length = m * sz ∧ ∃ A c, x = .slice A m c ∧ (0 < m → ∃ b off, A = some ⟨b, off, none⟩ ∧ Cs D M b off xs)
theorem Sl.src {sz m : Nat} {x : Value} {xs : List Value} (h : Sl D sz x m xs) (M : MList) : Src D M sz x m xs := by
  obtain ⟨h1, hn, A, cap, h2, h3, h4⟩ := h
  refine ⟨h1, A, cap, h2, fun hp => ?_⟩
  obtain ⟨b, off, c, T, fr, e1, e2, e3⟩ := h4 hp
  exact ⟨b, off, e1, c, T, fr, .inl e2, e3⟩
theorem Own.src {sz m : Nat} {T : TypeId} {x : Value} {xs : List Value} {q : MList} (h : Own sz T x m xs q) (hM : ∀ p ∈ q, p ∈ M) : Src D M sz x m xs := by
  refine ⟨h.1, ?_⟩
  rcases h.2 with ⟨h1, h2, h3⟩ | ⟨b, cap, cur, h1, h2, h3, h4, h5, h6⟩
  · exact ⟨none, 0, by rw [h1, h2], fun hp => by omega⟩
  · refine ⟨_, cap, h1, fun _ => ⟨b, 0, rfl, cur, T, (0, 0), .inr (hM _ (by rw [h2]; simp)), fun j u hu => ?_⟩⟩
    rw [← h6, List.getElem?_take] at hu
    split at hu
    · simpa using hu
    · cases hu
theorem append_drawn (w : World) (t ty e : TypeId) (i : TypeInfo) (z : Value) (size bytes : Nat) (ht : P.underlying t = some (.slice e)) (hi : P.info? e = some i) (hz : i.zero = some z)
    (hsize : i.size = size) (hby : i.bytes = bytes) (hzs : z.cells.size = size) (hsz : 0 < size) (v : Value) (n : Nat) (xs : List Value) (hown : w.ownsRow 0 e size v n xs)
    (a : Addr) (m c : Nat) (news : List Value) (hl : news.length = m * size) (hnews : ∀ j u, news[j]? = some u → w.cell? (a.add j) = some u) (h1 : ∀ u ∈ news, u.oneCell' = true)
    (h63 : n + m ≤ maxLen) (hbytes : (n + m) * bytes ≤ 140737488355328) {v' : Value} {w' : World} (hr : (Builtin.append_ #[t, t] ty #[v, .slice (some a) m c]).run P w = .ok v' w') : w.drawn ≤ w'.drawn := by
  subst hsize
  subst hby
  have hsmall : n + m ≤ 9223372036854775807 := by simp only [maxLen] at h63; omega
  rcases hown.2 with ⟨rfl, rfl⟩ | ⟨g, cap, cur, rfl, hbg, hg, hnc, hcm, hcs, htake⟩
  · by_cases hm : m = 0
    · subst hm
      have hn : news = [] := List.eq_nil_of_length_eq_zero (by simpa using hl)
      subst hn
      have : (Builtin.append_ #[t, t] ty #[.slice none 0 0, .slice (some a) 0 c]).run P w = .ok (.slice none 0 0) w := by
        simp [Builtin.append_, run_underlying ht, sizeOf, typeInfo, hi, Builtin.lenOf, Builtin.firstCells, loadCells, loadCellsFrom]
      rw [this] at hr; injection hr with _ e2; exact e2 ▸ Nat.le_refl _
    · have h := run_append_nil (P := P) w t ty e i z ht hi hz a m c news hl hnews (by omega) (by omega) (by have hb := hbytes; simp only [Nat.zero_add] at hb; omega)
      rw [h] at hr; injection hr with _ e2; rw [← e2]; simp
  · by_cases hroom : n + m ≤ cap
    · have hfit : n * i.size + news.length ≤ cur.size := by rw [hl, hcs, ← Nat.add_mul]; exact Nat.mul_le_mul_right _ hroom
      have h := run_append_room (P := P) w t ty e i ht hi g n cap cur hg a m c news hl hnews h1 hroom hfit
      rw [h] at hr; injection hr with _ e2; rw [← e2]; simp
    · have holds : ∀ j u, xs[j]? = some u → w.cell? ((⟨g, 0, none⟩ : Addr).add j) = some u := hown.cells (g := g) rfl
      have h := run_append_grow (P := P) w t ty e i z ht hi hz ⟨g, 0, none⟩ n cap xs hown.1 holds a m c news hl hnews (by omega) (by omega) (growslice_fits (by omega) hbytes)
      rw [h] at hr; injection hr with _ e2; rw [← e2]; simp
theorem append_run {t ty' T : TypeId} {i : TypeInfo} {z : Value} {sz bytes : Nat} (ht : P.underlying t = some (.slice T)) (hi : P.info? T = some i) (hz : i.zero = some z) (hsize : i.size = sz) (hby : i.bytes = bytes) (hzs : z.cells.size = sz) (hsz : 0 < sz)
    {v x : Value} {l m : Nat} {fl xs : List Value} {q R : MList} (ho : Own sz T v l fl q) (hsrc : Src D (q ++ R) sz x m xs) (h1 : ∀ u ∈ xs, u.oneCell' = true) (h63 : l + m ≤ maxLen) (hbytes : (l + m) * bytes ≤ 140737488355328) {w : World} (hs : St g w D (q ++ R)) :
    ∃ v' w', (Builtin.append_ #[t, t] ty' #[v, x]).run P w = .ok v' w' ∧ ∃ q', Own sz T v' (l + m) (fl ++ xs) q' ∧ St g w' D (q' ++ R) := by
  obtain ⟨hxl, A, c, rfl, hA⟩ := hsrc
  rcases Nat.eq_zero_or_pos m with h0 | hp
  · subst h0
    have hxs : xs = [] := List.eq_nil_of_length_eq_zero (by simpa using hxl)
    subst hxs
    refine ⟨v, w, ?_, q, by simpa using ho, hs⟩
    rcases ho.2 with ⟨rfl, rfl, rfl⟩ | ⟨b, cap, cur, rfl, rfl, h3, h4, h5, h6⟩
    · cases A <;> simp [Builtin.append_, run_underlying ht, sizeOf, typeInfo, hi, Builtin.lenOf, Builtin.firstCells, loadCells, loadCellsFrom]
    · cases A <;> simp [Builtin.append_, run_underlying ht, sizeOf, typeInfo, hi, Builtin.lenOf, Builtin.firstCells, h3, storeCells, loadCells, loadCellsFrom]
  · obtain ⟨b, off, rfl, hcs⟩ := hA hp
    obtain ⟨v', w', hr, hown, hg, _, hat⟩ := run_append_own_at (P := P) w 0 t ty' T i z sz bytes ht hi hz hsize hby hzs hsz v l fl (ho.row hs) ⟨b, off, none⟩ m c xs hxl (hcs.cell hs) h1 h63 hbytes (Nat.zero_le _)
    have hdr := append_drawn (P := P) w t ty' T i z sz bytes ht hi hz hsize hby hzs hsz v l fl (ho.row hs) ⟨b, off, none⟩ m c xs hxl (hcs.cell hs) h1 h63 hbytes hr
    obtain ⟨q', h2, h3⟩ := ho.after hs hown hg hdr hat
    exact ⟨v', w', hr, q', h2, h3⟩
theorem Run.append {s x : Operand} {t T : TypeId} {i : TypeInfo} {z : Value} {sz bytes : Nat} (ht : P.underlying t = some (.slice T)) (hi : P.info? T = some i) (hz : i.zero = some z) (hsize : i.size = sz) (hby : i.bytes = bytes) (hzs : z.cells.size = sz) (hsz : 0 < sz)
    {v xv : Value} {l m : Nat} {fl xs : List Value} {q R : MList} (hv : e.ev s = some v) (hx : e.ev x = some xv) (hM : M.Perm (q ++ R)) (ho : Own sz T v l fl q) (hsrc : Src D (q ++ R) sz xv m xs) (h1 : ∀ u ∈ xs, u.oneCell' = true) (h63 : l + m ≤ maxLen) (hbytes : (l + m) * bytes ≤ 140737488355328)
    (hd : dstOk n dst = true) (h : ∀ v' q', Own sz T v' (l + m) (fl ++ xs) q' → Run P n Q g (.ops all rest :: k) (e.put dst v') D (q' ++ R)) :
    Run P n Q g (.ops all (⟨dst, .call { callee := .builtin .append, args := #[s, x], argTypes := #[t, t] }, ty, pos, af, none⟩ :: rest) :: k) e D M :=
  Run.eff (fun v' D' M' => ∃ q', Own sz T v' (l + m) (fl ++ xs) q' ∧ D' = D ∧ M' = q' ++ R) hd (fun a he w hs => by
    have hs' : St g w D (q ++ R) := hs.perm hM.symm
    obtain ⟨v', w', hr, q', h2, h3⟩ := append_run (ty' := ty) ht hi hz hsize hby hzs hsz ho hsrc h1 h63 hbytes hs'
    refine ⟨v', w', D, q' ++ R, ?_, h3, q', h2, rfl, rfl⟩
    simp [execOp, resolve, he.ev hv, he.ev hx, Sem.run_bind, Sem.run_pure, invoke, builtin, hr, Result.andThen_ok])
    (fun v' D' M' ⟨q', h2, h3, h4⟩ => by subst h3; subst h4; exact h v' q' h2)

/-! ### 3. Slices: elements, cuts, make -/
theorem Run.indexAddr {t el : TypeId} {x i : Operand} {b off l c sz : Nat} {kd : IntKind} {j : Int} (hu : ∀ w, (underlying t).run P w = .ok (.slice el) w) (hS : ∀ w, (sizeOf el).run P w = .ok sz w)
    (hx : e.ev x = some (.slice (some ⟨b, off, none⟩) l c)) (hi : e.ev i = some (.int kd j)) (h0 : 0 ≤ j) (h1 : j < l) (hd : dstOk n dst = true)
    (h : Run P n Q g (.ops all rest :: k) (e.put dst (.pointer (some ⟨b, off + j.toNat * sz, none⟩))) D M) : Run P n Q g (.ops all (⟨dst, .indexAddr t x i, ty, pos, af, none⟩ :: rest) :: k) e D M :=
  Run.val _ hd (fun a he w hs => by
    simp only [execOp, Instr.indexAt, Sem.run_bind, he.ev hx, he.ev hi, asIntOf, pure, Sem.run, Result.andThen_ok, hu]
    simp [h0, h1, Sem.run_bind, hS, Sem.run, add_plain, Sem.run_pure, Result.andThen_ok]) h
theorem Run.sliceLo {t el : TypeId} {x lo : Operand} {A : Option Addr} {l c sz : Nat} {kd : IntKind} {i : Nat} (hu : ∀ w, (underlying t).run P w = .ok (.slice el) w) (hS : ∀ w, (sizeOf el).run P w = .ok sz w)
    (hx : e.ev x = some (.slice A l c)) (hi : e.ev lo = some (.int kd i)) (h1 : i ≤ l) (hd : dstOk n dst = true)
    (h : Run P n Q g (.ops all rest :: k) (e.put dst (.slice (if c = i then A else A.map (·.add (i * sz))) (l - i) (c - i))) D M) : Run P n Q g (.ops all (⟨dst, .slice t x (some lo) none none, ty, pos, af, none⟩ :: rest) :: k) e D M :=
  Run.val _ hd (fun a he w hs => by
    simp [execOp, Instr.sliceAt, Instr.slice, Instr.sliceBounds, Instr.sliceBound, Sem.run_bind, he.ev hx, he.ev hi, asIntOf, Sem.run_pure, hu, h1, hS, Result.andThen_ok]) h
theorem Run.sliceHi {t el : TypeId} {x hi : Operand} {A : Option Addr} {l c sz : Nat} {kd : IntKind} {i : Nat} (hu : ∀ w, (underlying t).run P w = .ok (.slice el) w) (hS : ∀ w, (sizeOf el).run P w = .ok sz w)
    (hx : e.ev x = some (.slice A l c)) (hi' : e.ev hi = some (.int kd i)) (h1 : i ≤ c) (hd : dstOk n dst = true)
    (h : Run P n Q g (.ops all rest :: k) (e.put dst (.slice A i c)) D M) : Run P n Q g (.ops all (⟨dst, .slice t x none (some hi) none, ty, pos, af, none⟩ :: rest) :: k) e D M :=
  Run.val _ hd (fun a he w hs => by
    by_cases hc : c = 0
    · subst hc
      have : i = 0 := by omega
      subst this
      simp [execOp, Instr.sliceAt, Instr.slice, Instr.sliceBounds, Instr.sliceBound, Sem.run_bind, he.ev hx, he.ev hi', asIntOf, Sem.run_pure, hu, h1, hS, Result.andThen_ok]
    · have hA : A.map (fun x : Addr => x.add 0) = A := by cases A <;> simp [Addr.add]
      simp [execOp, Instr.sliceAt, Instr.slice, Instr.sliceBounds, Instr.sliceBound, Sem.run_bind, he.ev hx, he.ev hi', asIntOf, Sem.run_pure, hu, h1, hS, Result.andThen_ok, hc, hA]) h
theorem madeZ {zc : List Value} {z : Value} (hzs : z.cells = zc.toArray) (len : Nat) (h0 : len * zc.length ≠ 0) : (Array.range (len * zc.length)).map (z.cells[· % z.cells.size]!) = (reps len zc).toArray := reps_eq len z.cells zc hzs h0
theorem Run.makeSlice {t el : TypeId} {xl xc : Operand} {ti : TypeInfo} {zc : List Value} {z : Value} {len cap : Nat} (hu : ∀ w, (underlying t).run P w = .ok (.slice el) w) (ht : ∀ w, (typeInfo el).run P w = .ok ti w) (hS : ∀ w, (sizeOf el).run P w = .ok zc.length w)
    (hz : ∀ w, (zeroValue el).run P w = .ok z w) (hzs : z.cells = zc.toArray) (hl : e.ev xl = some (.int .i64 len)) (hc : e.ev xc = some (.int .i64 cap)) (h1 : len ≤ cap) (hb : ti.bytes * cap ≤ 281474976710656) (hc63 : cap ≤ 9223372036854775807) (hzl : 0 < zc.length) (hd : dstOk n dst = true)
    (h : ∀ b, D b = none → Run P n Q g (.ops all rest :: k) (e.put dst (.slice (some ⟨b, 0, none⟩) len cap)) D ((b, .cells (reps cap zc).toArray el (0, 0)) :: M)) : Run P n Q g (.ops all (⟨dst, .makeSlice t xl xc, ty, pos, af, none⟩ :: rest) :: k) e D M :=
  Run.new _ hd (fun b => .slice (some ⟨b, 0, none⟩) len cap) (fun a he w hs => by
    have hwl : IntKind.i64.wrap (len : Int) = len := wrap_i64 (by omega) (by omega)
    have hwc : IntKind.i64.wrap (cap : Int) = cap := wrap_i64 (by omega) (by omega)
    have hb' : ¬ ((ti.bytes : Int) * (cap : Int) > 281474976710656) := by
      have : ((ti.bytes * cap : Nat) : Int) ≤ 281474976710656 := by omega
      rw [Int.natCast_mul] at this; omega
    have hcond : ((cap : Int) < 0 || decide ((ti.bytes : Int) * (cap : Int) > 2 ^ 48) || decide ((len : Int) < 0) || decide ((len : Int) > (cap : Int))) = false := by
      have h2 : (2 : Int) ^ 48 = 281474976710656 := by decide
      rw [h2]
      simp only [hb', decide_false, Bool.or_false, Bool.or_eq_false_iff, decide_eq_false_iff_not]
      omega
    have hask : ∀ (x : Nat) (w : World), (askRoom x).run P w = .ok () w := by
      intro x w
      unfold askRoom
      split <;> rfl
    simp only [execOp, Instr.makeSlice, Sem.run_bind, hu, ht, Result.andThen_ok, he.ev hl, he.ev hc, asInt, asIntOf, pure, Sem.run, hwl, hwc]
    rw [if_neg (by rw [Bool.not_eq_true]; simpa [Bool.or_assoc] using hcond)]
    simp only [Sem.run_bind, hask, Result.andThen_ok, hS, Int.toNat_natCast]
    by_cases h0 : cap * zc.length = 0
    · have hc0 : cap = 0 := by rcases Nat.mul_eq_zero.1 h0 with h | h <;> omega
      subst hc0
      have hr0 : Array.range 0 = #[] := rfl
      simp [reps, Sem.run_pure, newRow, newObj, Sem.run_bind, Sem.run, Result.andThen_ok, hr0]
    · rw [if_neg h0]
      simp only [Sem.run_bind, hz, Result.andThen_ok, pure, Sem.run]
      rw [madeZ hzs cap h0]
      simp [newRow, newObj, Sem.run_pure, Sem.run_bind, Sem.run, Result.andThen_ok]) h

/-! ### 4. == and != of what is no number -/
theorem eqGuard_ptr (op : BinOp) (t : TypeId) (x y : Operand) (a b : Option Addr) : eqGuard op t x y (.pointer a) (.pointer b) = (pure () : Sem Unit) := by cases op <;> rfl
theorem eqGuard_sl (op : BinOp) (t : TypeId) (x y : Operand) (a b : Option Addr) (l c l' c' : Nat) : eqGuard op t x y (.slice a l c) (.slice b l' c') = (pure () : Sem Unit) := by cases op <;> rfl
theorem eqGuard_bool (op : BinOp) (t : TypeId) (x y : Operand) (a b : Bool) : eqGuard op t x y (.bool a) (.bool b) = (pure () : Sem Unit) := by cases op <;> rfl
theorem Run.eqPtrNil {t t' el : TypeId} {x y : Operand} {a : Option Addr} (hu : ∀ w, (underlying t).run P w = .ok (.pointer el) w) (hx : e.ev x = some (.pointer a)) (hy : e.ev y = some (.pointer none)) (hd : dstOk n dst = true)
    (h : Run P n Q g (.ops all rest :: k) (e.put dst (.bool a.isNone)) D M) : Run P n Q g (.ops all (⟨dst, .binOp .eql t x y t', ty, pos, af, none⟩ :: rest) :: k) e D M :=
  Run.val _ hd (fun a' he w hs => by
    have hq : ∀ x y, Op.equal t x y = Op.equalIn (9999 + 1) t x y := fun _ _ => rfl
    generalize 9999 = d at hq
    simp only [execOp, he.ev hx, he.ev hy, eqGuard_ptr]
    cases a <;> simp [binOp, hq, Op.equalIn, Sem.run_bind, hu, Sem.run_pure, Result.andThen_ok]) h
theorem Run.nePtrNil {t t' el : TypeId} {x y : Operand} {a : Option Addr} (hu : ∀ w, (underlying t).run P w = .ok (.pointer el) w) (hx : e.ev x = some (.pointer a)) (hy : e.ev y = some (.pointer none)) (hd : dstOk n dst = true)
    (h : Run P n Q g (.ops all rest :: k) (e.put dst (.bool (!a.isNone))) D M) : Run P n Q g (.ops all (⟨dst, .binOp .neq t x y t', ty, pos, af, none⟩ :: rest) :: k) e D M :=
  Run.val _ hd (fun a' he w hs => by
    have hq : ∀ x y, Op.equal t x y = Op.equalIn (9999 + 1) t x y := fun _ _ => rfl
    generalize 9999 = d at hq
    simp only [execOp, he.ev hx, he.ev hy, eqGuard_ptr]
    cases a <;> simp [binOp, hq, Op.equalIn, Sem.run_bind, hu, Sem.run_pure, Result.andThen_ok]) h
theorem Run.eqSlNil {t t' el : TypeId} {x y : Operand} {a : Option Addr} {l c : Nat} (hu : ∀ w, (underlying t).run P w = .ok (.slice el) w) (hx : e.ev x = some (.slice a l c)) (hy : e.ev y = some (.slice none 0 0)) (hd : dstOk n dst = true)
    (h : Run P n Q g (.ops all rest :: k) (e.put dst (.bool a.isNone)) D M) : Run P n Q g (.ops all (⟨dst, .binOp .eql t x y t', ty, pos, af, none⟩ :: rest) :: k) e D M :=
  Run.val _ hd (fun a' he w hs => by
    have hq : ∀ x y, Op.equal t x y = Op.equalIn (9999 + 1) t x y := fun _ _ => rfl
    generalize 9999 = d at hq
    simp only [execOp, he.ev hx, he.ev hy, eqGuard_sl]
    cases a <;> simp [binOp, hq, Op.equalIn, Sem.run_bind, hu, Sem.run_pure, Result.andThen_ok]) h
theorem Run.eqBool {t t' : TypeId} {x y : Operand} {a b : Bool} (hu : ∀ w, (underlying t).run P w = .ok .bool w) (hx : e.ev x = some (.bool a)) (hy : e.ev y = some (.bool b)) (hd : dstOk n dst = true)
    (h : Run P n Q g (.ops all rest :: k) (e.put dst (.bool (a == b))) D M) : Run P n Q g (.ops all (⟨dst, .binOp .eql t x y t', ty, pos, af, none⟩ :: rest) :: k) e D M :=
  Run.val _ hd (fun a' he w hs => by
    have hq : ∀ x y, Op.equal t x y = Op.equalIn (9999 + 1) t x y := fun _ _ => rfl
    generalize 9999 = d at hq
    simp only [execOp, he.ev hx, he.ev hy, eqGuard_bool]
    simp [binOp, hq, Op.equalIn, Sem.run_bind, hu, Sem.run_pure, Result.andThen_ok]) h
theorem Run.neBool {t t' : TypeId} {x y : Operand} {a b : Bool} (hu : ∀ w, (underlying t).run P w = .ok .bool w) (hx : e.ev x = some (.bool a)) (hy : e.ev y = some (.bool b)) (hd : dstOk n dst = true)
    (h : Run P n Q g (.ops all rest :: k) (e.put dst (.bool (!(a == b)))) D M) : Run P n Q g (.ops all (⟨dst, .binOp .neq t x y t', ty, pos, af, none⟩ :: rest) :: k) e D M :=
  Run.val _ hd (fun a' he w hs => by
    have hq : ∀ x y, Op.equal t x y = Op.equalIn (9999 + 1) t x y := fun _ _ => rfl
    generalize 9999 = d at hq
    simp only [execOp, he.ev hx, he.ev hy, eqGuard_bool]
    simp [binOp, hq, Op.equalIn, Sem.run_bind, hu, Sem.run_pure, Result.andThen_ok]) h
/-- == of structs of one type: how it comes out -/
def EqAt (P : Program) (t : TypeId) (xs ys : List Value) (r : Bool) : Prop :=
  ∀ w, (Op.equal t (.agg xs.toArray) (.agg ys.toArray)).run P w = .ok r w
theorem eqGuard_agg {t : TypeId} (h : P.eqGuardType P.depth t = false) (op : BinOp) (x y : Operand) (a b : Array Value) (w : World) : (eqGuard op t x y (.agg a) (.agg b)).run P w = .ok () w := by
  cases op <;> simp [eqGuard, Sem.run_bind, program, Sem.run, h, pure, bind, Sem.bind, Result.andThen]
theorem Run.eqAgg {t t' : TypeId} {x y : Operand} {xs ys : List Value} {r : Bool} (hg : P.eqGuardType P.depth t = false) (hx : e.ev x = some (.agg xs.toArray)) (hy : e.ev y = some (.agg ys.toArray)) (hr : EqAt P t xs ys r) (hd : dstOk n dst = true)
    (h : Run P n Q g (.ops all rest :: k) (e.put dst (.bool r)) D M) : Run P n Q g (.ops all (⟨dst, .binOp .eql t x y t', ty, pos, af, none⟩ :: rest) :: k) e D M :=
  Run.val _ hd (fun a' he w hs => by
    simp only [execOp, he.ev hx, he.ev hy, Sem.run_bind, eqGuard_agg hg, Result.andThen_ok]
    simp [binOp, Sem.run_bind, hr w, Sem.run_pure, Result.andThen_ok]) h
theorem Run.neAgg {t t' : TypeId} {x y : Operand} {xs ys : List Value} {r : Bool} (hg : P.eqGuardType P.depth t = false) (hx : e.ev x = some (.agg xs.toArray)) (hy : e.ev y = some (.agg ys.toArray)) (hr : EqAt P t xs ys r) (hd : dstOk n dst = true)
    (h : Run P n Q g (.ops all rest :: k) (e.put dst (.bool !r)) D M) : Run P n Q g (.ops all (⟨dst, .binOp .neq t x y t', ty, pos, af, none⟩ :: rest) :: k) e D M :=
  Run.val _ hd (fun a' he w hs => by
    simp only [execOp, he.ev hx, he.ev hy, Sem.run_bind, eqGuard_agg hg, Result.andThen_ok]
    simp [binOp, Sem.run_bind, hr w, Sem.run_pure, Result.andThen_ok]) h
end
end Go.Proofs.Ytgdpjpmjcpieiaa
