/- The engine's rules for the operations. No condition. -/
import Derived.Test.YtgdpjpmjcpieiaaEng
import Derived.IntWalk
namespace Go.Proofs.Ytgdpjpmjcpieiaa
open Go
set_option linter.unusedVariables false
set_option linter.unusedSimpArgs false
section
variable {P : Program} {n : Nat} {Q : Exit → Act → World → Prop} {g : Gl} {k : List It} {e : Env} {D : Dict} {M : MList}
  {all : Array Oper} {rest : List Oper} {dst : Option Nat} {ty : TypeId} {pos : String} {af : Array Edge}

/-- an operation that yields a value, the world turned or not -/
theorem Run.eff {op : Op} (K : Value → Dict → MList → Prop) (hd : dstOk n dst = true)
    (hv : ∀ a, EnvOk n e a → ∀ w, St g w D M → ∃ v w' D' M', (execOp a.eval ⟨dst, op, ty, pos, af, none⟩).run P w = .ok (.value v) w' ∧ St g w' D' M' ∧ K v D' M')
    (h : ∀ v D' M', K v D' M' → Run P n Q g (.ops all rest :: k) (e.put dst v) D' M') : Run P n Q g (.ops all (⟨dst, op, ty, pos, af, none⟩ :: rest) :: k) e D M := by
  intro a w he hdf hs
  show wpList P all (itp P Q k) _ a w
  refine wpList_plain rfl fun K' hK => ?_
  obtain ⟨v, w', D', M', hr, hs', hk⟩ := hv a he w hs
  unfold Oper.wp
  rw [hr]
  exact hK _ _ (h v D' M' hk _ _ (he.put hd v) (by rw [Act.put_defers']; exact hdf) hs')
theorem Run.val {op : Op} (v : Value) (hd : dstOk n dst = true)
    (hv : ∀ a, EnvOk n e a → ∀ w, St g w D M → (execOp a.eval ⟨dst, op, ty, pos, af, none⟩).run P w = .ok (.value v) w)
    (h : Run P n Q g (.ops all rest :: k) (e.put dst v) D M) : Run P n Q g (.ops all (⟨dst, op, ty, pos, af, none⟩ :: rest) :: k) e D M :=
  Run.eff (fun v' D' M' => v' = v ∧ D' = D ∧ M' = M) hd (fun a he w hs => ⟨v, w, D, M, hv a he w hs, hs, rfl, rfl, rfl⟩) (fun _ _ _ ⟨h1, h2, h3⟩ => by subst h1; subst h2; subst h3; exact h)
/-- one that yields none -/
theorem Run.skp {op : Op} (K : Dict → MList → Prop) (hd : dstOk n dst = true)
    (hv : ∀ a, EnvOk n e a → ∀ w, St g w D M → ∃ w' D' M', (execOp a.eval ⟨dst, op, ty, pos, af, none⟩).run P w = .ok .skip w' ∧ St g w' D' M' ∧ K D' M')
    (h : ∀ D' M', K D' M' → Run P n Q g (.ops all rest :: k) (e.put dst undef) D' M') : Run P n Q g (.ops all (⟨dst, op, ty, pos, af, none⟩ :: rest) :: k) e D M := by
  intro a w he hdf hs
  show wpList P all (itp P Q k) _ a w
  refine wpList_plain rfl fun K' hK => ?_
  obtain ⟨w', D', M', hr, hs', hk⟩ := hv a he w hs
  unfold Oper.wp
  rw [hr]
  exact hK _ _ (h D' M' hk _ _ (he.put hd undef) (by rw [Act.put_defers']; exact hdf) hs')
/-- a guarded operation -/
def gdst (all : Array Oper) (j : Nat) : Option Nat := match all.toList[j]? with
  | some o => o.dst
  | none => none
theorem Run.guard {op : Op} {j d : Nat} {want b : Bool} (hj : gdst all j = some d) (hb : e.get d = some (.bool b)) (hd : dstOk n dst = true)
    (hy : b = want → Run P n Q g (.ops all (⟨dst, op, ty, pos, af, none⟩ :: rest) :: k) e D M)
    (hn : b = !want → Run P n Q g (.ops all rest :: k) (e.put dst undef) D M) : Run P n Q g (.ops all (⟨dst, op, ty, pos, af, some (j, want)⟩ :: rest) :: k) e D M := by
  intro a w he hdf hs
  show wpList P all (itp P Q k) _ a w
  have hyl : yielded all a.tmps j = some b := by
    unfold yielded
    have h1 : (all[j]?).bind (·.dst) = some d := by
      unfold gdst at hj
      rw [← Array.getElem?_toList]
      cases ho : all.toList[j]? with
      | none => rw [ho] at hj; cases hj
      | some o => rw [ho] at hj; simpa using hj
    rw [h1]
    simp [he.at_ d _ hb]
  unfold wpList
  simp only [Region.wanted, hyl]
  by_cases hbw : b = want
  · subst hbw
    simp only [BEq.rfl, if_true]
    have h1 := hy rfl a w he hdf hs
    change wpList P all (itp P Q k) _ a w at h1
    unfold wpList at h1
    simp only [Region.wanted, if_true] at h1
    exact h1
  · have hb2 : b = !want := by cases b <;> cases want <;> first | rfl | exact absurd rfl hbw
    have : (some b == some want) = false := by rw [hb2]; cases want <;> rfl
    rw [this]
    simp only [Bool.false_eq_true, if_false]
    exact hn hb2 _ w (he.put hd undef) (by rw [Act.put_defers']; exact hdf) hs

theorem Run.guardY {op : Op} {j d : Nat} {want b : Bool} (hj : gdst all j = some d) (hb : e.get d = some (.bool b)) (hbw : b = want)
    (h : Run P n Q g (.ops all (⟨dst, op, ty, pos, af, none⟩ :: rest) :: k) e D M) : Run P n Q g (.ops all (⟨dst, op, ty, pos, af, some (j, want)⟩ :: rest) :: k) e D M := by
  intro a w he hdf hs
  show wpList P all (itp P Q k) _ a w
  have h1 := h a w he hdf hs
  change wpList P all (itp P Q k) _ a w at h1
  have hyl : yielded all a.tmps j = some b := by
    unfold yielded
    have h1 : (all[j]?).bind (·.dst) = some d := by
      unfold gdst at hj
      rw [← Array.getElem?_toList]
      cases ho : all.toList[j]? with
      | none => rw [ho] at hj; cases hj
      | some o => rw [ho] at hj; simpa using hj
    rw [h1]
    simp [he.at_ d _ hb]
  unfold wpList at h1 ⊢
  simp only [Region.wanted, hyl, hbw, BEq.rfl, if_true] at h1 ⊢
  exact h1
theorem Run.guardN {op : Op} {j d : Nat} {want : Bool} {v : Value} (hj : gdst all j = some d) (hb : e.get d = some v) (hbw : v ≠ .bool want) (hd : dstOk n dst = true)
    (h : Run P n Q g (.ops all rest :: k) (e.put dst undef) D M) : Run P n Q g (.ops all (⟨dst, op, ty, pos, af, some (j, want)⟩ :: rest) :: k) e D M := by
  intro a w he hdf hs
  show wpList P all (itp P Q k) _ a w
  have hyl : (yielded all a.tmps j == some want) = false := by
    unfold yielded
    have h1 : (all[j]?).bind (·.dst) = some d := by
      unfold gdst at hj
      rw [← Array.getElem?_toList]
      cases ho : all.toList[j]? with
      | none => rw [ho] at hj; cases hj
      | some o => rw [ho] at hj; simpa using hj
    rw [h1]
    simp only [Option.bind_some, he.at_ d _ hb]
    cases v <;> first | rfl | skip
    rename_i b
    cases b <;> cases want <;> first | rfl | exact absurd rfl hbw
  unfold wpList
  simp only [Region.wanted, hyl, Bool.false_eq_true, if_false]
  exact h _ w (he.put hd undef) (by rw [Act.put_defers']; exact hdf) hs
theorem Run.guardF {op : Op} {j d : Nat} {want b : Bool} (hj : gdst all j = some d) (hb : e.get d = some (.bool b)) (hbw : b = !want) (hd : dstOk n dst = true)
    (h : Run P n Q g (.ops all rest :: k) (e.put dst undef) D M) : Run P n Q g (.ops all (⟨dst, op, ty, pos, af, some (j, want)⟩ :: rest) :: k) e D M :=
  Run.guardN hj hb (by subst hbw; cases want <;> (intro hq; injection hq with hq; cases hq)) hd h
/-! ### values -/
theorem Run.move {x : Operand} {v : Value} (hx : e.ev x = some v) (hd : dstOk n dst = true) (h : Run P n Q g (.ops all rest :: k) (e.put dst v) D M) : Run P n Q g (.ops all (⟨dst, .move x, ty, pos, af, none⟩ :: rest) :: k) e D M :=
  Run.val v hd (fun a he w hs => by simp only [execOp, he.ev hx]; rfl) h
theorem Run.assign {x : Operand} {v : Value} (hx : e.ev x = some v) (hd : dstOk n dst = true) (h : Run P n Q g (.ops all rest :: k) (e.put dst v) D M) : Run P n Q g (.ops all (⟨dst, .assign x, ty, pos, af, none⟩ :: rest) :: k) e D M :=
  Run.val v hd (fun a he w hs => by simp only [execOp, he.ev hx]; rfl) h
theorem Run.pickT {c x y : Operand} {b : Bool} {v : Value} (hc : e.ev c = some (.bool b)) (hb : b = true) (hx : e.ev x = some v) (hd : dstOk n dst = true) (h : Run P n Q g (.ops all rest :: k) (e.put dst v) D M) :
    Run P n Q g (.ops all (⟨dst, .pick c x y, ty, pos, af, none⟩ :: rest) :: k) e D M :=
  Run.val v hd (fun a he w hs => by subst hb; simp only [execOp, he.ev hc, he.ev hx]; rfl) h
theorem Run.pickF {c x y : Operand} {b : Bool} {v : Value} (hc : e.ev c = some (.bool b)) (hb : b = false) (hx : e.ev y = some v) (hd : dstOk n dst = true) (h : Run P n Q g (.ops all rest :: k) (e.put dst v) D M) :
    Run P n Q g (.ops all (⟨dst, .pick c x y, ty, pos, af, none⟩ :: rest) :: k) e D M :=
  Run.val v hd (fun a he w hs => by subst hb; simp only [execOp, he.ev hc, he.ev hx]; rfl) h
theorem Run.nilCheck {x : Operand} {a : Addr} (hx : e.ev x = some (.pointer (some a))) (hd : dstOk n dst = true) (h : Run P n Q g (.ops all rest :: k) (e.put dst (.pointer (some a))) D M) :
    Run P n Q g (.ops all (⟨dst, .nilCheck x, ty, pos, af, none⟩ :: rest) :: k) e D M :=
  Run.val _ hd (fun a' he w hs => by simp only [execOp, he.ev hx]; rfl) h
theorem Run.nilCheckFn {x : Operand} {f : FuncId} {c d : Array Value} (hx : e.ev x = some (.func (.func f) c d)) (hd : dstOk n dst = true) (h : Run P n Q g (.ops all rest :: k) (e.put dst (.func (.func f) c d)) D M) :
    Run P n Q g (.ops all (⟨dst, .nilCheck x, ty, pos, af, none⟩ :: rest) :: k) e D M :=
  Run.val _ hd (fun a' he w hs => by simp only [execOp, he.ev hx]; rfl) h
theorem Run.not {t : TypeId} {x : Operand} {b : Bool} (hx : e.ev x = some (.bool b)) (hd : dstOk n dst = true) (h : Run P n Q g (.ops all rest :: k) (e.put dst (.bool !b)) D M) :
    Run P n Q g (.ops all (⟨dst, .unOp .not t x, ty, pos, af, none⟩ :: rest) :: k) e D M :=
  Run.val _ hd (fun a' he w hs => by simp only [execOp, he.ev hx]; rfl) h
theorem Run.makeFunc {fn : Fn} {f c : List Operand} {vf vc : List Value} (hf : e.evs f = some vf) (hc : e.evs c = some vc) (hd : dstOk n dst = true) (h : Run P n Q g (.ops all rest :: k) (e.put dst (.func fn vf.toArray vc.toArray)) D M) :
    Run P n Q g (.ops all (⟨dst, .makeFunc fn f.toArray c.toArray, ty, pos, af, none⟩ :: rest) :: k) e D M :=
  Run.val _ hd (fun a' he w hs => by
    simp only [execOp, List.map_toArray, he.evs hf, he.evs hc]; rfl) h
theorem Run.extract {x : Operand} {i : Nat} {vs : List Value} {v : Value} (hx : e.ev x = some (.tuple vs.toArray)) (hi : vs[i]? = some v) (hd : dstOk n dst = true) (h : Run P n Q g (.ops all rest :: k) (e.put dst v) D M) :
    Run P n Q g (.ops all (⟨dst, .extract x i, ty, pos, af, none⟩ :: rest) :: k) e D M :=
  Run.val _ hd (fun a' he w hs => by simp only [execOp, he.ev hx, Instr.extract, List.getElem?_toArray, hi]; rfl) h

/-! ### whole numbers -/
def cmpB : BinOp → Int → Int → Option Bool
  | .eql, x, y => some (decide (x = y))
  | .neq, x, y => some (!decide (x = y))
  | .lss, x, y => some (decide (x < y))
  | .leq, x, y => some (decide (x ≤ y))
  | .gtr, x, y => some (decide (y < x))
  | .geq, x, y => some (decide (y ≤ x))
  | _, _, _ => none
theorem eqGuard_int (op : BinOp) (t : TypeId) (x y : Operand) (kd kd' : IntKind) (a b : Int) : eqGuard op t x y (.int kd a) (.int kd' b) = (pure () : Sem Unit) := by cases op <;> rfl
theorem binOp_cmp {op : BinOp} {t : TypeId} {kd : IntKind} {a b : Int} {r : Bool} (hr : cmpB op a b = some r) : binOp op t (.int kd a) (.int kd b) = (pure (.bool r) : Sem Value) := by
  cases op <;> simp only [cmpB, Option.some.injEq, reduceCtorEq] at hr <;> subst hr <;> unfold binOp <;> simp only [ne_eq, not_true_eq_false, if_false] <;> unfold Op.intCmp <;> simp only [] <;> first | rfl | (by_cases h : a = b <;> simp [h])
theorem Run.cmp {op : BinOp} {t t' : TypeId} {x y : Operand} {kd : IntKind} {a b : Int} {r : Bool} (hx : e.ev x = some (.int kd a)) (hy : e.ev y = some (.int kd b)) (hr : cmpB op a b = some r)
    (hd : dstOk n dst = true) (h : Run P n Q g (.ops all rest :: k) (e.put dst (.bool r)) D M) : Run P n Q g (.ops all (⟨dst, .binOp op t x y t', ty, pos, af, none⟩ :: rest) :: k) e D M :=
  Run.val _ hd (fun a' he w hs => by
    simp only [execOp, he.ev hx, he.ev hy, eqGuard_int, binOp_cmp hr]; rfl) h
theorem Run.arith {op : BinOp} {t t' : TypeId} {x y : Operand} {kd : IntKind} {a b r : Int} (hx : e.ev x = some (.int kd a)) (hy : e.ev y = some (.int kd b))
    (hr : (op = .add ∧ kd.wrap (a + b) = r) ∨ (op = .sub ∧ kd.wrap (a - b) = r) ∨ (op = .mul ∧ kd.wrap (a * b) = r))
    (hd : dstOk n dst = true) (h : Run P n Q g (.ops all rest :: k) (e.put dst (.int kd r)) D M) : Run P n Q g (.ops all (⟨dst, .binOp op t x y t', ty, pos, af, none⟩ :: rest) :: k) e D M :=
  Run.val _ hd (fun a' he w hs => by
    simp only [execOp, he.ev hx, he.ev hy]
    rcases hr with ⟨rfl, rfl⟩ | ⟨rfl, rfl⟩ | ⟨rfl, rfl⟩ <;> simp [binOp, Op.intArith, eqGuard, bind, pure, Sem.bind, Sem.run]) h
theorem Run.add {t t' : TypeId} {x y : Operand} {kd : IntKind} {a b r : Int} (hx : e.ev x = some (.int kd a)) (hy : e.ev y = some (.int kd b)) (hr : kd.wrap (a + b) = r)
    (hd : dstOk n dst = true) (h : Run P n Q g (.ops all rest :: k) (e.put dst (.int kd r)) D M) : Run P n Q g (.ops all (⟨dst, .binOp .add t x y t', ty, pos, af, none⟩ :: rest) :: k) e D M := Run.arith hx hy (.inl ⟨rfl, hr⟩) hd h
theorem Run.subt {t t' : TypeId} {x y : Operand} {kd : IntKind} {a b r : Int} (hx : e.ev x = some (.int kd a)) (hy : e.ev y = some (.int kd b)) (hr : kd.wrap (a - b) = r)
    (hd : dstOk n dst = true) (h : Run P n Q g (.ops all rest :: k) (e.put dst (.int kd r)) D M) : Run P n Q g (.ops all (⟨dst, .binOp .sub t x y t', ty, pos, af, none⟩ :: rest) :: k) e D M := Run.arith hx hy (.inr (.inl ⟨rfl, hr⟩)) hd h
theorem Run.mul {t t' : TypeId} {x y : Operand} {kd : IntKind} {a b r : Int} (hx : e.ev x = some (.int kd a)) (hy : e.ev y = some (.int kd b)) (hr : kd.wrap (a * b) = r)
    (hd : dstOk n dst = true) (h : Run P n Q g (.ops all rest :: k) (e.put dst (.int kd r)) D M) : Run P n Q g (.ops all (⟨dst, .binOp .mul t x y t', ty, pos, af, none⟩ :: rest) :: k) e D M := Run.arith hx hy (.inr (.inr ⟨rfl, hr⟩)) hd h
theorem Run.rem {t t' : TypeId} {x y : Operand} {kd : IntKind} {a b r : Int} (hx : e.ev x = some (.int kd a)) (hy : e.ev y = some (.int kd b)) (h0 : b ≠ 0) (hr : a.tmod b = r)
    (hd : dstOk n dst = true) (h : Run P n Q g (.ops all rest :: k) (e.put dst (.int kd r)) D M) : Run P n Q g (.ops all (⟨dst, .binOp .rem t x y t', ty, pos, af, none⟩ :: rest) :: k) e D M :=
  Run.val _ hd (fun a' he w hs => by
    simp only [execOp, he.ev hx, he.ev hy]
    subst hr; simp [binOp, Op.intDiv, eqGuard, bind, pure, Sem.bind, Sem.run, h0]) h
theorem Run.shr {t t' : TypeId} {x y : Operand} {kd ky : IntKind} {a b r : Int} (hx : e.ev x = some (.int kd a)) (hy : e.ev y = some (.int ky b)) (h0 : 0 ≤ b) (hr : a.fdiv (2 ^ (min b.toNat kd.bits)) = r)
    (hd : dstOk n dst = true) (h : Run P n Q g (.ops all rest :: k) (e.put dst (.int kd r)) D M) : Run P n Q g (.ops all (⟨dst, .binOp .shr t x y t', ty, pos, af, none⟩ :: rest) :: k) e D M :=
  Run.val _ hd (fun a' he w hs => by
    simp only [execOp, he.ev hx, he.ev hy]
    subst hr; simp [binOp, Op.shift, eqGuard, bind, pure, Sem.bind, Sem.run, show ¬ b < 0 by omega]) h
theorem Run.shl {t t' : TypeId} {x y : Operand} {kd ky : IntKind} {a b r : Int} (hx : e.ev x = some (.int kd a)) (hy : e.ev y = some (.int ky b)) (h0 : 0 ≤ b) (hr : kd.wrap (a * 2 ^ (min b.toNat kd.bits)) = r)
    (hd : dstOk n dst = true) (h : Run P n Q g (.ops all rest :: k) (e.put dst (.int kd r)) D M) : Run P n Q g (.ops all (⟨dst, .binOp .shl t x y t', ty, pos, af, none⟩ :: rest) :: k) e D M :=
  Run.val _ hd (fun a' he w hs => by
    simp only [execOp, he.ev hx, he.ev hy]
    subst hr; simp [binOp, Op.shift, eqGuard, bind, pure, Sem.bind, Sem.run, show ¬ b < 0 by omega]) h
theorem Run.band {t t' : TypeId} {x y : Operand} {kd : IntKind} {a b r : Int} (hx : e.ev x = some (.int kd a)) (hy : e.ev y = some (.int kd b)) (hr : kd.wrap ((BitVec.ofInt kd.bits a &&& BitVec.ofInt kd.bits b).toNat) = r)
    (hd : dstOk n dst = true) (h : Run P n Q g (.ops all rest :: k) (e.put dst (.int kd r)) D M) : Run P n Q g (.ops all (⟨dst, .binOp .and t x y t', ty, pos, af, none⟩ :: rest) :: k) e D M :=
  Run.val _ hd (fun a' he w hs => by
    simp only [execOp, he.ev hx, he.ev hy]
    subst hr; simp [binOp, Op.intBits, eqGuard, bind, pure, Sem.bind, Sem.run]) h
theorem Run.bor {t t' : TypeId} {x y : Operand} {kd : IntKind} {a b r : Int} (hx : e.ev x = some (.int kd a)) (hy : e.ev y = some (.int kd b)) (hr : kd.wrap ((BitVec.ofInt kd.bits a ||| BitVec.ofInt kd.bits b).toNat) = r)
    (hd : dstOk n dst = true) (h : Run P n Q g (.ops all rest :: k) (e.put dst (.int kd r)) D M) : Run P n Q g (.ops all (⟨dst, .binOp .or t x y t', ty, pos, af, none⟩ :: rest) :: k) e D M :=
  Run.val _ hd (fun a' he w hs => by
    simp only [execOp, he.ev hx, he.ev hy]
    subst hr; simp [binOp, Op.intBits, eqGuard, bind, pure, Sem.bind, Sem.run]) h
theorem Run.convInt {s t : TypeId} {x : Operand} {kd kd' : IntKind} {us : TypeDesc} {a r : Int} (hs : ∀ w, (underlying s).run P w = .ok us w) (ht : ∀ w, (underlying t).run P w = .ok (.int kd) w) (hx : e.ev x = some (.int kd' a)) (hr : kd.wrap a = r)
    (hd : dstOk n dst = true) (h : Run P n Q g (.ops all rest :: k) (e.put dst (.int kd r)) D M) : Run P n Q g (.ops all (⟨dst, .convert s t x, ty, pos, af, none⟩ :: rest) :: k) e D M :=
  Run.val _ hd (fun a' he w hs' => by
    simp only [execOp, he.ev hx, convert, Sem.run_bind, hs, ht, Result.andThen_ok]
    subst hr
    cases us <;> simp [Conv.intToInt, Sem.run, pure]) h
theorem wrap_i64 {x : Int} (h1 : -9223372036854775808 ≤ x) (h2 : x ≤ 9223372036854775807) : IntKind.i64.wrap x = x := IntWalk.i64_in _ (by omega)
theorem shr_i64 (a : Int) (k : Nat) (h : k ≤ 64) : a.fdiv (2 ^ (min (k : Int).toNat IntKind.i64.bits)) = a / 2 ^ k := by
  have h2 : min k IntKind.i64.bits = k := Nat.min_eq_left h
  rw [Int.toNat_natCast, h2, Int.fdiv_eq_ediv_of_nonneg _ (Int.pow_nonneg (by decide))]
theorem wrap_u16 (x : Int) : IntKind.u16.wrap x = x % 65536 := by simp [IntKind.wrap, IntKind.bits, IntKind.signed]
theorem wrap_u8 (x : Int) : IntKind.u8.wrap x = x % 256 := by simp [IntKind.wrap, IntKind.bits, IntKind.signed]
theorem wrap_u64 (x : Int) : IntKind.u64.wrap x = x % 18446744073709551616 := by simp [IntKind.wrap, IntKind.bits, IntKind.signed]
theorem wrap_u32 (x : Int) : IntKind.u32.wrap x = x % 4294967296 := by simp [IntKind.wrap, IntKind.bits, IntKind.signed]
end
end Go.Proofs.Ytgdpjpmjcpieiaa
