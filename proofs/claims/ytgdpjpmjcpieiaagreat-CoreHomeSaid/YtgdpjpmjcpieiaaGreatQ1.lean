import Derived.Orders
import Derived.Tactics
import Derived.OwnWalk
import Derived.Deep.LoopGhost
import Derived.Scope
import Derived.IntWalk
import Derived.Laws.CopyRow
import Derived.Laws.OwnMore
import Derived.Maps.AppendAt
/- The engine: worlds are told by what never changes any more (D) and by what may (M); a frame by the slots that are known; rules for each form of code. No condition. -/
namespace Go.Proofs.YtgdpjpmjcpieiaaGreat
open Go
set_option linter.unusedVariables false
set_option linter.unusedSimpArgs false

/-! ### 1. Worlds -/
abbrev Dict := Nat → Option Obj
abbrev MList := List (Nat × Obj)
def Le (D D' : Dict) : Prop := ∀ b o, D b = some o → D' b = some o
theorem Le.rfl' {D : Dict} : Le D D := fun _ _ h => h
theorem Le.mono {D D' D'' : Dict} (h : Le D D') (h' : Le D' D'') : Le D D'' := fun b o k => h' b o (h b o k)
theorem Le.trans {D D' D'' : Dict} (h : Le D D') (h' : Le D' D'') : Le D D'' := fun b o k => h' b o (h b o k)
def ins (D : Dict) (b : Nat) (o : Obj) : Dict := fun x => if x = b then some o else D x
theorem ins_same (D : Dict) (b : Nat) (o : Obj) : ins D b o b = some o := by simp [ins]
structure Gl where
  os : Os
  out : Array (Nat × ByteArray)
  tape : Nat → Question → Nat
  drw : Nat
structure St (g : Gl) (w : World) (D : Dict) (M : MList) : Prop where
  os : w.os = g.os
  out : w.output = g.out
  tape : w.tape = g.tape
  imm : ∀ b o, D b = some o → w.heap[b]? = some o
  mt : ∀ p ∈ M, w.heap[p.1]? = some p.2
  nd : (M.map Prod.fst).Nodup
  dis : ∀ p ∈ M, D p.1 = none
  drw : g.drw ≤ w.drawn
theorem St.drew {g : Gl} {w : World} {D : Dict} {M : MList} (h : St g w D M) (n : Nat) (hn : w.drawn ≤ n) : St g { w with drawn := n } D M :=
  ⟨h.os, h.out, h.tape, h.imm, h.mt, h.nd, h.dis, Nat.le_trans h.drw hn⟩
theorem St.lt {g : Gl} {w : World} {D : Dict} {M : MList} (h : St g w D M) {b : Nat} {o : Obj} (hb : D b = some o) : b < w.heap.size :=
  (Array.getElem?_eq_some_iff.1 (h.imm b o hb)).1
theorem St.ltM {g : Gl} {w : World} {D : Dict} {M : MList} (h : St g w D M) {p : Nat × Obj} (hp : p ∈ M) : p.1 < w.heap.size :=
  (Array.getElem?_eq_some_iff.1 (h.mt p hp)).1
theorem St.perm {g : Gl} {w : World} {D : Dict} {M M' : MList} (h : St g w D M) (hp : M'.Perm M) : St g w D M' :=
  ⟨h.os, h.out, h.tape, h.imm, fun p k => h.mt p (hp.mem_iff.1 k), (hp.map Prod.fst).nodup_iff.2 h.nd, fun p k => h.dis p (hp.mem_iff.1 k), h.drw⟩
theorem St.sub {g : Gl} {w : World} {D : Dict} {M M' : MList} (h : St g w D M) (hp : M'.Sublist M) : St g w D M' :=
  ⟨h.os, h.out, h.tape, h.imm, fun p k => h.mt p (hp.subset k), (hp.map Prod.fst).nodup h.nd, fun p k => h.dis p (hp.subset k), h.drw⟩
theorem St.drop {g : Gl} {w : World} {D : Dict} {M : MList} (h : St g w D M) (n : Nat) : St g w D (M.drop n) := h.sub (List.drop_sublist n M)
theorem St.alloc {g : Gl} {w : World} {D : Dict} {M : MList} (h : St g w D M) (o : Obj) : St g { w with heap := w.heap.push o } D ((w.heap.size, o) :: M) := by
  have hlt : ∀ {b : Nat} {o' : Obj}, w.heap[b]? = some o' → (w.heap.push o)[b]? = some o' := fun {b o'} hb => by
    have := (Array.getElem?_eq_some_iff.1 hb).1
    rw [Array.getElem?_push, if_neg (by omega)]; exact hb
  refine ⟨h.os, h.out, h.tape, fun b o' hb => hlt (h.imm b o' hb), fun p hp => ?_, ?_, fun p hp => ?_, h.drw⟩
  · rcases List.mem_cons.1 hp with rfl | hp
    · simp
    · exact hlt (h.mt p hp)
  · simp only [List.map_cons, List.nodup_cons]
    refine ⟨fun hm => ?_, h.nd⟩
    obtain ⟨p, hp, he⟩ := List.mem_map.1 hm
    have := h.ltM hp
    omega
  · rcases List.mem_cons.1 hp with rfl | hp
    · cases hD : D w.heap.size with
      | none => rfl
      | some o' => exact absurd (h.lt hD) (by omega)
    · exact h.dis p hp
theorem St.set {g : Gl} {w w' : World} {D : Dict} {M : MList} {b : Nat} {o o' : Obj} (h : St g w D ((b, o) :: M))
    (hos : w'.os = w.os) (hout : w'.output = w.output) (htape : w'.tape = w.tape) (hdrw : w.drawn ≤ w'.drawn) (hb : w'.heap[b]? = some o') (hr : ∀ c, c ≠ b → w'.heap[c]? = w.heap[c]?) : St g w' D ((b, o') :: M) := by
  have hnd := h.nd
  simp only [List.map_cons, List.nodup_cons] at hnd
  have hne : ∀ p ∈ M, p.1 ≠ b := fun p hp he => hnd.1 (List.mem_map.2 ⟨p, hp, he⟩)
  have hD : D b = none := h.dis (b, o) (List.mem_cons_self ..)
  refine ⟨hos.trans h.os, hout.trans h.out, htape.trans h.tape, fun c u hc => ?_, fun p hp => ?_, by simpa using hnd, fun p hp => ?_, Nat.le_trans h.drw hdrw⟩
  · rw [hr c (fun e => by rw [e, hD] at hc; cases hc)]; exact h.imm c u hc
  · rcases List.mem_cons.1 hp with rfl | hp
    · exact hb
    · rw [hr _ (hne p hp)]; exact h.mt p (List.mem_cons_of_mem _ hp)
  · rcases List.mem_cons.1 hp with rfl | hp
    · exact hD
    · exact h.dis p (List.mem_cons_of_mem _ hp)
/-- what will never be written again -/
theorem St.freeze {g : Gl} {w : World} {D : Dict} {M : MList} {b : Nat} {o : Obj} (h : St g w D ((b, o) :: M)) : St g w (ins D b o) M := by
  have hnd := h.nd
  simp only [List.map_cons, List.nodup_cons] at hnd
  refine ⟨h.os, h.out, h.tape, fun c u hc => ?_, fun p hp => h.mt p (List.mem_cons_of_mem _ hp), hnd.2, fun p hp => ?_, h.drw⟩
  · unfold ins at hc
    split at hc
    · rename_i e; subst e; injection hc with hc; subst hc; exact h.mt (c, o) (List.mem_cons_self ..)
    · exact h.imm c u hc
  · unfold ins
    rw [if_neg]
    · exact h.dis p (List.mem_cons_of_mem _ hp)
    · exact fun e => hnd.1 (List.mem_map.2 ⟨p, hp, e⟩)
theorem St.freeze_le {g : Gl} {w : World} {D : Dict} {M : MList} {b : Nat} {o : Obj} (h : St g w D ((b, o) :: M)) : Le D (ins D b o) := by
  intro c u hc
  unfold ins
  rw [if_neg]
  · exact hc
  · rintro rfl
    have := h.dis (c, o) (List.mem_cons_self ..)
    simp only at this
    rw [this] at hc; cases hc

/-! ### 2. Frames -/
abbrev Env := List (Nat × Value)
def Env.get : Env → Nat → Option Value
  | [], _ => none
  | (s, v) :: r, t => match Nat.beq s t with
    | true => some v
    | false => Env.get r t
def Env.ev (e : Env) : Operand → Option Value
  | .tmp t => e.get t
  | .const v => some v
  | .global g => some (.pointer (some ⟨g, 0, none⟩))
  | .func f => some (.func (.func f) #[] #[])
def Env.evs (e : Env) : List Operand → Option (List Value)
  | [] => some []
  | x :: r => match e.ev x with
    | none => none
    | some v => match Env.evs e r with
      | none => none
      | some vs => some (v :: vs)
def Env.put (e : Env) : Option Nat → Value → Env
  | none, _ => e
  | some d, v => (d, v) :: e
def dstOk (n : Nat) : Option Nat → Bool
  | none => true
  | some d => Nat.blt d n
structure EnvOk (n : Nat) (e : Env) (a : Act) : Prop where
  size : a.tmps.size = n
  at_ : ∀ t v, e.get t = some v → a.tmps[t]? = some v
theorem EnvOk.ev {n : Nat} {e : Env} {a : Act} (h : EnvOk n e a) {x : Operand} {v : Value} (hx : e.ev x = some v) : a.eval x = v := by
  cases x with
  | tmp t => have := h.at_ t v hx; simp [Act.eval, this]
  | const u => simpa [Env.ev, Act.eval] using hx
  | global g => simpa [Env.ev, Act.eval] using hx
  | func f => simpa [Env.ev, Act.eval] using hx
theorem EnvOk.evs {n : Nat} {e : Env} {a : Act} (h : EnvOk n e a) : ∀ {xs : List Operand} {vs : List Value}, e.evs xs = some vs → xs.map a.eval = vs
  | [], vs, hx => by simpa [Env.evs] using hx
  | x :: r, vs, hx => by
    unfold Env.evs at hx
    split at hx
    · cases hx
    · rename_i v hv
      split at hx
      · cases hx
      · rename_i us hus
        injection hx with hx
        subst hx
        simp [h.ev hv, EnvOk.evs h hus]
theorem EnvOk.put {n : Nat} {e : Env} {a : Act} (h : EnvOk n e a) {dst : Option Nat} (hd : dstOk n dst = true) (v : Value) : EnvOk n (e.put dst v) (a.put dst v) := by
  cases dst with
  | none => exact h
  | some d =>
    have hd' : d < n := by simpa [dstOk, Nat.blt_eq] using hd
    refine ⟨by simp [Act.put, h.size], fun t u ht => ?_⟩
    simp only [Env.put, Env.get] at ht
    simp only [Act.put]
    by_cases e1 : d = t
    · subst e1
      simp at ht
      subst ht
      simp [h.size, hd']
    · have hb : Nat.beq d t = false := by
        cases hq : Nat.beq d t with
        | false => rfl
        | true => exact absurd (Nat.eq_of_beq_eq_true hq) e1
      rw [hb] at ht
      rw [Array.getElem?_setIfInBounds_ne e1]
      exact h.at_ t u ht
theorem Act.put_defers' (a : Act) (dst : Option Nat) (v : Value) : (a.put dst v).defers = a.defers := by cases dst <;> rfl
/-- fewer slots are known -/
def Env.Has (e : Env) : Env → Prop
  | [] => True
  | (s, v) :: r => e.get s = some v ∧ Env.Has e r
theorem Env.Has.get {e : Env} : ∀ {e' : Env}, e.Has e' → ∀ {t v}, e'.get t = some v → e.get t = some v
  | [], _, _, _, h => by cases h
  | (s, u) :: r, hh, t, v, h => by
    obtain ⟨h1, h2⟩ := hh
    unfold Env.get at h
    split at h
    · rename_i hb
      injection h with h
      subst h
      rw [← Nat.eq_of_beq_eq_true hb]; exact h1
    · exact Env.Has.get h2 h
theorem EnvOk.has {n : Nat} {e e' : Env} {a : Act} (h : EnvOk n e a) (hh : e.Has e') : EnvOk n e' a := ⟨h.size, fun t v k => h.at_ t v (hh.get k)⟩

/-! ### 3. Code, what comes behind it, and the judgement -/
inductive It where
  | code (c : Code)
  | ops (all : Array Oper) (l : List Oper)
  | block (id : Nat)
  | again (I : Act → World → Prop)
  | scope
def itp (P : Program) (Q : Exit → Act → World → Prop) : List It → Exit → Act → World → Prop
  | [] => Q
  | .code c :: k => Exit.then (c.wp P (itp P Q k)) (itp P Q k)
  | .ops all l :: k => Exit.then (wpList P all (itp P Q k) l) (itp P Q k)
  | .block id :: k => Exit.inBlock id (itp P Q k)
  | .again I :: k => Exit.then I (itp P Q k)
  | .scope :: k => Exit.noGoto (itp P Q k)
theorem itp_ret {P : Program} {Q : Exit → Act → World → Prop} {a : Act} {w : World} (h : Q .ret a w) : ∀ k, itp P Q k .ret a w
  | [] => h
  | .code _ :: k | .ops _ _ :: k | .block _ :: k | .again _ :: k | .scope :: k => itp_ret h k
def drp (id : Nat) : List It → Option (List It)
  | .block i :: k => match Nat.beq id i with
    | true => some k
    | false => drp id k
  | _ :: k => drp id k
  | [] => none
theorem itp_exit {P : Program} {Q : Exit → Act → World → Prop} {a : Act} {w : World} {id : Nat} : ∀ {k k' : List It}, drp id k = some k' → itp P Q k' .normal a w → itp P Q k (.exit id) a w
  | [], _, h, _ => by cases h
  | .code _ :: k, k', h, hh => itp_exit (k := k) (by simpa [drp] using h) hh
  | .ops _ _ :: k, k', h, hh => itp_exit (k := k) (by simpa [drp] using h) hh
  | .again _ :: k, k', h, hh => itp_exit (k := k) (by simpa [drp] using h) hh
  | .scope :: k, k', h, hh => itp_exit (k := k) (by simpa [drp] using h) hh
  | .block i :: k, k', h, hh => by
    simp only [itp, Exit.inBlock]
    by_cases e1 : id = i
    · subst e1
      simp [drp] at h
      subst h
      rw [if_pos rfl]; exact hh
    · have hb : Nat.beq id i = false := by
        cases hq : Nat.beq id i with
        | false => rfl
        | true => exact absurd (Nat.eq_of_beq_eq_true hq) e1
      rw [if_neg e1]
      exact itp_exit (k := k) (by simpa [drp, hb] using h) hh
theorem Oper.wp_mono2 {P : Program} {o : Oper} {a : Act} {w : World} {K K' : Act → World → Prop} {Q Q' : Exit → Act → World → Prop} (h : ∀ a w, K a w → K' a w) (hQ : ∀ e a w, Q e a w → Q' e a w)
    (hh : o.wp P a w K Q) : o.wp P a w K' Q' := by
  unfold Oper.wp at *
  generalize (execOp a.eval o).run P w = r at *
  cases r with
  | ok n w' =>
    cases n <;> simp only [Oper.upon] at hh ⊢ <;>
      first
        | exact h _ _ hh
        | exact Calls.mono hh (fun e w'' he => by cases e <;> first | exact h _ _ he | exact hQ _ _ _ he | exact (let ⟨x, y, z⟩ := he; ⟨x, y, hQ _ _ _ z⟩))
        | exact Rows.mono hh (fun _ _ he => h _ _ he)
  | halt x w' => cases x <;> simp only [Oper.upon] at hh ⊢ <;> first | exact hQ _ _ _ hh | exact hh
theorem wpList_mono {P : Program} {all : Array Oper} {Q Q' : Exit → Act → World → Prop} (hQ : ∀ e a w, Q e a w → Q' e a w) : ∀ (l : List Oper) {a : Act} {w : World}, wpList P all Q l a w → wpList P all Q' l a w
  | [], _, _, h => hQ _ _ _ h
  | o :: r, a, w, h => by
    unfold wpList at *
    split
    · rename_i hw
      rw [if_pos hw] at h
      exact h.imp (Oper.wp_mono2 (fun a w => wpList_mono hQ r) hQ) (fun ⟨h1, x, y, z⟩ => ⟨h1, x, y, hQ _ _ _ z⟩)
    · rename_i hw
      rw [if_neg hw] at h
      exact wpList_mono hQ r h
/-- from whatever frame and world that fits, what comes behind goes well -/
def Run (P : Program) (n : Nat) (Q : Exit → Act → World → Prop) (g : Gl) (k : List It) (e : Env) (D : Dict) (M : MList) : Prop :=
  ∀ a w, EnvOk n e a → a.defers = [] → St g w D M → itp P Q k .normal a w
section
variable {P : Program} {n : Nat} {Q : Exit → Act → World → Prop} {g : Gl} {k : List It} {e : Env} {D : Dict} {M : MList}
theorem Run.seq {x y : Code} (h : Run P n Q g (.code x :: .code y :: k) e D M) : Run P n Q g (.code (.seq x y) :: k) e D M :=
  fun a w he hd hs => wp_seq (h a w he hd hs)
theorem Run.skip (h : Run P n Q g k e D M) : Run P n Q g (.code .skip :: k) e D M := fun a w he hd hs => wp_skip (h a w he hd hs)
theorem Run.block {id : Nat} {c : Code} (h : Run P n Q g (.code c :: .block id :: k) e D M) : Run P n Q g (.code (.block id c) :: k) e D M :=
  fun a w he hd hs => wp_block (h a w he hd hs)
theorem Run.scope {c : Code} (h : Run P n Q g (.code c :: .scope :: k) e D M) : Run P n Q g (.code (.scope c) :: k) e D M :=
  fun a w he hd hs => wp_scope_straight (h a w he hd hs)
theorem Run.endScope (h : Run P n Q g k e D M) : Run P n Q g (.scope :: k) e D M := h
theorem Run.label {l : Nat} (h : Run P n Q g k e D M) : Run P n Q g (.code (.label l) :: k) e D M := fun a w he hd hs => wp_label (h a w he hd hs)
theorem Run.endBlock {id : Nat} (h : Run P n Q g k e D M) : Run P n Q g (.block id :: k) e D M := h
theorem Run.exit {id : Nat} {k' : List It} (hk : drp id k = some k') (h : Run P n Q g k' e D M) : Run P n Q g (.code (.exit id) :: k) e D M :=
  fun a w he hd hs => wp_exit (itp_exit hk (h a w he hd hs))
theorem Run.cond {c : Operand} {x y : Code} {b : Bool} (hc : e.ev c = some (.bool b)) (ht : b = true → Run P n Q g (.code x :: k) e D M) (hf : b = false → Run P n Q g (.code y :: k) e D M) :
    Run P n Q g (.code (.cond c x y) :: k) e D M := fun a w he hd hs => wp_cond_split (he.ev hc) (fun h => ht h a w he hd hs) (fun h => hf h a w he hd hs)
theorem Run.has {e' : Env} (hh : e.Has e') (h : Run P n Q g k e' D M) : Run P n Q g k e D M := fun a w he hd hs => h a w (he.has hh) hd hs
theorem Run.st {D' : Dict} {M' : MList} (hh : ∀ w, St g w D M → St g w D' M') (h : Run P n Q g k e D' M') : Run P n Q g k e D M := fun a w he hd hs => h a w he hd (hh w hs)
theorem Run.know {p : Prop} (hp : ∀ w, St g w D M → p) (h : p → Run P n Q g k e D M) : Run P n Q g k e D M := fun a w he hd hs => h (hp w hs) a w he hd hs
theorem Run.freeze {b : Nat} {o : Obj} {M : MList} (h : Le D (ins D b o) → D b = none → Run P n Q g k e (ins D b o) M) : Run P n Q g k e D ((b, o) :: M) :=
  fun a w he hd hs => h hs.freeze_le (hs.dis _ (List.mem_cons_self ..)) a w he hd hs.freeze
theorem Run.front (i : Nat) {p : Nat × Obj} {M' : MList} (hp : M'.Perm M) (h : Run P n Q g k e D M') : Run P n Q g k e D M := h.st fun _ hs => hs.perm hp
theorem Run.nilOps {all : Array Oper} (h : Run P n Q g k e D M) : Run P n Q g (.ops all [] :: k) e D M := fun a w he hd hs => h a w he hd hs
theorem Run.region {id : Nat} {l : List Oper} (h : Run P n Q g (.ops l.toArray l :: k) e D M) : Run P n Q g (.code (.region id l.toArray false) :: k) e D M :=
  fun a w he hd hs => wp_region_lit (h a w he hd hs)
/-! ### 4. The function's ends -/
theorem Run.ret {fn : Func} {R : Ending → World → Prop} {v : Value} (hr : ∀ (a : Act) (w : World), EnvOk n e a → (results fn a.tmps).run P w = .ok v w) (h : ∀ w, St g w D M → R (.returned v) w) :
    Run P n (bodyPost P fn R) g (.code .ret :: k) e D M :=
  fun a w he hd hs => wp_ret (itp_ret (k := k) (Q := bodyPost P fn R) ⟨hd, v, hr a w he, h w hs⟩)
theorem Run.fin {fn : Func} {R : Ending → World → Prop} {v : Value} (hr : ∀ (a : Act) (w : World), EnvOk n e a → (results fn a.tmps).run P w = .ok v w) (h : ∀ w, St g w D M → R (.returned v) w) :
    Run P n (bodyPost P fn R) g [] e D M := fun a w he hd hs => ⟨hd, v, hr a w he, h w hs⟩
theorem get_tmps {e : Env} {a : Act} (he : EnvOk n e a) {t : Nat} {v : Value} (h : e.get t = some v) : a.tmps.getD t undef = v := by
  have := he.at_ t v h; simp [this]
theorem res0 {fn : Func} (h : fn.results = #[]) : ∀ (a : Act) (w : World), EnvOk n e a → (results fn a.tmps).run P w = .ok (.tuple #[]) w := fun a w _ => results_none h a.tmps P w
theorem res1 {fn : Func} {t : Tmp} {v : Value} (h : fn.results = #[.tmp t]) (hv : e.get t = some v) : ∀ (a : Act) (w : World), EnvOk n e a → (results fn a.tmps).run P w = .ok v w :=
  fun a w he => by rw [results_tmp h a.tmps P w, get_tmps he hv]
theorem res2 {fn : Func} {t u : Tmp} {v x : Value} (h : fn.results = #[.tmp t, .tmp u]) (hv : e.get t = some v) (hx : e.get u = some x) : ∀ (a : Act) (w : World), EnvOk n e a → (results fn a.tmps).run P w = .ok (.tuple #[v, x]) w :=
  fun a w he => by rw [results_tmp2 h a.tmps P w, get_tmps he hv, get_tmps he hx]
theorem res3 {fn : Func} {t u s : Tmp} {v x y : Value} (h : fn.results = #[.tmp t, .tmp u, .tmp s]) (hv : e.get t = some v) (hx : e.get u = some x) (hy : e.get s = some y) : ∀ (a : Act) (w : World), EnvOk n e a → (results fn a.tmps).run P w = .ok (.tuple #[v, x, y]) w :=
  fun a w he => by rw [results_tmp3 h a.tmps P w, get_tmps he hv, get_tmps he hx, get_tmps he hy]
/-! ### 5. Loops -/
theorem Run.loop {ι : Type} {c : Code} (C : Env) (E : ι → Env) (DD : ι → Dict) (MM : ι → MList) (pre : ι → Prop) (μ : ι → Nat) (i0 : ι) (hC : e.Has C) (h0 : pre i0) (hE : e.Has (E i0)) (hS : ∀ w, St g w D M → St g w (DD i0) (MM i0))
    (hb : ∀ i, pre i → Run P n Q g (.code c :: .again (fun a w => ∃ j, pre j ∧ μ j < μ i ∧ EnvOk n (E j ++ C) a ∧ a.defers = [] ∧ St g w (DD j) (MM j)) :: k) (E i ++ C) (DD i) (MM i)) :
    Run P n Q g (.code (.loop c) :: k) e D M := by
  intro a w he hd hs
  show (Code.loop c).wp P (itp P Q k) a w
  have happ : ∀ (A B : Env), e.Has A → e.Has B → e.Has (A ++ B) := by
    intro A B hA hB
    induction A with
    | nil => exact hB
    | cons p r ih => exact ⟨hA.1, ih hA.2⟩
  refine wp_loop_ghost (fun m a w => ∃ i, pre i ∧ μ i = m ∧ EnvOk n (E i ++ C) a ∧ a.defers = [] ∧ St g w (DD i) (MM i)) (μ i0) ⟨i0, h0, rfl, he.has (happ _ _ hE hC), hd, hS w hs⟩ ?_
  rintro m a w ⟨i, hi, rfl, he, hd, hs⟩
  refine wp_mono (hb i hi a w he hd hs) fun ex a' w' hx => ?_
  cases ex with
  | normal =>
    obtain ⟨j, hj, hlt, he', hd', hs'⟩ := hx
    exact ⟨μ j, hlt, j, hj, rfl, he', hd', hs'⟩
  | _ => exact hx
theorem Run.again {ι : Type} {C : Env} {E : ι → Env} {DD : ι → Dict} {MM : ι → MList} {pre : ι → Prop} {μ : ι → Nat} {i : ι} (j : ι) (hj : pre j) (hlt : μ j < μ i) (hE : e.Has (E j ++ C)) (hS : ∀ w, St g w D M → St g w (DD j) (MM j)) :
    Run P n Q g (.again (fun a w => ∃ j, pre j ∧ μ j < μ i ∧ EnvOk n (E j ++ C) a ∧ a.defers = [] ∧ St g w (DD j) (MM j)) :: k) e D M :=
  fun a w he hd hs => ⟨j, hj, hlt, he.has hE, hd, hS w hs⟩
/-- ways meet: the piece, then what comes behind, once -/
theorem Run.cut {ι : Type} {x : It} (C : Env) (E : ι → Env) (DD : ι → Dict) (MM : ι → MList) (pre : ι → Prop) (hC : e.Has C)
    (hx : Run P n Q g (x :: .again (fun a w => ∃ j, pre j ∧ EnvOk n (E j ++ C) a ∧ a.defers = [] ∧ St g w (DD j) (MM j)) :: k) e D M)
    (hk : ∀ j, pre j → Run P n Q g k (E j ++ C) (DD j) (MM j)) : Run P n Q g (x :: k) e D M := by
  intro a w he hd hs
  have h := hx a w he hd hs
  have mono : ∀ ex a w, itp P Q (.again (fun a w => ∃ j, pre j ∧ EnvOk n (E j ++ C) a ∧ a.defers = [] ∧ St g w (DD j) (MM j)) :: k) ex a w → itp P Q k ex a w := by
    intro ex a w hh
    cases ex with
    | normal => obtain ⟨j, hj, he', hd', hs'⟩ := hh; exact hk j hj a w he' hd' hs'
    | _ => exact hh
  cases x with
  | code c => exact wp_mono h mono
  | ops all l => exact wpList_mono mono l h
  | block id =>
    show itp P Q k .normal a w
    exact mono _ _ _ h
  | again I => exact h
  | scope =>
    show itp P Q k .normal a w
    exact mono _ _ _ h
theorem Run.meet {ι : Type} {C : Env} {E : ι → Env} {DD : ι → Dict} {MM : ι → MList} {pre : ι → Prop} (j : ι) (hj : pre j) (hE : e.Has (E j ++ C)) (hS : ∀ w, St g w D M → St g w (DD j) (MM j)) :
    Run P n Q g (.again (fun a w => ∃ j, pre j ∧ EnvOk n (E j ++ C) a ∧ a.defers = [] ∧ St g w (DD j) (MM j)) :: k) e D M :=
  fun a w he hd hs => ⟨j, hj, he.has hE, hd, hS w hs⟩
end
end Go.Proofs.YtgdpjpmjcpieiaaGreat

/- The engine's rules for the operations. No condition. -/
namespace Go.Proofs.YtgdpjpmjcpieiaaGreat
open Go
set_option linter.unusedVariables false
set_option linter.unusedSimpArgs false
section
variable {P : Program} {n : Nat} {Q : Exit → Act → World → Prop} {g : Gl} {k : List It} {e : Env} {D : Dict} {M : MList}
  {all : Array Oper} {rest : List Oper} {dst : Option Nat} {ty : TypeId} {pos : String} {af : Array Edge}

/-- an operation that yields a value, the world turned or not -/
theorem Run.eff {op : Op} (K : Value → Dict → MList → Prop) (hd : dstOk n dst = true)
    (hv : ∀ a, EnvOk n e a → ∀ w, St g w D M → ∃ v w' D' M', (execOp a.eval ⟨dst, op, ty, pos, af, none⟩).run P w = .ok (.value v) w' ∧ St g w' D' M' ∧ K v D' M')
    (h : ∀ v D' M', K v D' M' → Run P n Q g (.ops all rest :: k) (e.put dst v) D' M') : Run P n Q g (.ops all (⟨dst, op, ty, pos, af, none⟩ :: rest) :: k) e D M := by
  intro a w he hdf hs
  show wpList P all (itp P Q k) _ a w
  refine wpList_plain rfl fun K' hK => ?_
  obtain ⟨v, w', D', M', hr, hs', hk⟩ := hv a he w hs
  unfold Oper.wp
  rw [hr]
  exact hK _ _ (h v D' M' hk _ _ (he.put hd v) (by rw [Act.put_defers']; exact hdf) hs')
theorem Run.val {op : Op} (v : Value) (hd : dstOk n dst = true)
    (hv : ∀ a, EnvOk n e a → ∀ w, St g w D M → (execOp a.eval ⟨dst, op, ty, pos, af, none⟩).run P w = .ok (.value v) w)
    (h : Run P n Q g (.ops all rest :: k) (e.put dst v) D M) : Run P n Q g (.ops all (⟨dst, op, ty, pos, af, none⟩ :: rest) :: k) e D M :=
  Run.eff (fun v' D' M' => v' = v ∧ D' = D ∧ M' = M) hd (fun a he w hs => ⟨v, w, D, M, hv a he w hs, hs, rfl, rfl, rfl⟩) (fun _ _ _ ⟨h1, h2, h3⟩ => by subst h1; subst h2; subst h3; exact h)
/-- one that yields none -/
theorem Run.skp {op : Op} (K : Dict → MList → Prop) (hd : dstOk n dst = true)
    (hv : ∀ a, EnvOk n e a → ∀ w, St g w D M → ∃ w' D' M', (execOp a.eval ⟨dst, op, ty, pos, af, none⟩).run P w = .ok .skip w' ∧ St g w' D' M' ∧ K D' M')
    (h : ∀ D' M', K D' M' → Run P n Q g (.ops all rest :: k) (e.put dst undef) D' M') : Run P n Q g (.ops all (⟨dst, op, ty, pos, af, none⟩ :: rest) :: k) e D M := by
  intro a w he hdf hs
  show wpList P all (itp P Q k) _ a w
  refine wpList_plain rfl fun K' hK => ?_
  obtain ⟨w', D', M', hr, hs', hk⟩ := hv a he w hs
  unfold Oper.wp
  rw [hr]
  exact hK _ _ (h D' M' hk _ _ (he.put hd undef) (by rw [Act.put_defers']; exact hdf) hs')
/-- a guarded operation -/
def gdst (all : Array Oper) (j : Nat) : Option Nat := match all.toList[j]? with
  | some o => o.dst
  | none => none
theorem Run.guard {op : Op} {j d : Nat} {want b : Bool} (hj : gdst all j = some d) (hb : e.get d = some (.bool b)) (hd : dstOk n dst = true)
    (hy : b = want → Run P n Q g (.ops all (⟨dst, op, ty, pos, af, none⟩ :: rest) :: k) e D M)
    (hn : b = !want → Run P n Q g (.ops all rest :: k) (e.put dst undef) D M) : Run P n Q g (.ops all (⟨dst, op, ty, pos, af, some (j, want)⟩ :: rest) :: k) e D M := by
  intro a w he hdf hs
  show wpList P all (itp P Q k) _ a w
  have hyl : yielded all a.tmps j = some b := by
    unfold yielded
    have h1 : (all[j]?).bind (·.dst) = some d := by
      unfold gdst at hj
      rw [← Array.getElem?_toList]
      cases ho : all.toList[j]? with
      | none => rw [ho] at hj; cases hj
      | some o => rw [ho] at hj; simpa using hj
    rw [h1]
    simp [he.at_ d _ hb]
  unfold wpList
  simp only [Region.wanted, hyl]
  by_cases hbw : b = want
  · subst hbw
    simp only [BEq.rfl, if_true]
    have h1 := hy rfl a w he hdf hs
    change wpList P all (itp P Q k) _ a w at h1
    unfold wpList at h1
    simp only [Region.wanted, if_true] at h1
    exact h1
  · have hb2 : b = !want := by cases b <;> cases want <;> first | rfl | exact absurd rfl hbw
    have : (some b == some want) = false := by rw [hb2]; cases want <;> rfl
    rw [this]
    simp only [Bool.false_eq_true, if_false]
    exact hn hb2 _ w (he.put hd undef) (by rw [Act.put_defers']; exact hdf) hs

theorem Run.guardY {op : Op} {j d : Nat} {want b : Bool} (hj : gdst all j = some d) (hb : e.get d = some (.bool b)) (hbw : b = want)
    (h : Run P n Q g (.ops all (⟨dst, op, ty, pos, af, none⟩ :: rest) :: k) e D M) : Run P n Q g (.ops all (⟨dst, op, ty, pos, af, some (j, want)⟩ :: rest) :: k) e D M := by
  intro a w he hdf hs
  show wpList P all (itp P Q k) _ a w
  have h1 := h a w he hdf hs
  change wpList P all (itp P Q k) _ a w at h1
  have hyl : yielded all a.tmps j = some b := by
    unfold yielded
    have h1 : (all[j]?).bind (·.dst) = some d := by
      unfold gdst at hj
      rw [← Array.getElem?_toList]
      cases ho : all.toList[j]? with
      | none => rw [ho] at hj; cases hj
      | some o => rw [ho] at hj; simpa using hj
    rw [h1]
    simp [he.at_ d _ hb]
  unfold wpList at h1 ⊢
  simp only [Region.wanted, hyl, hbw, BEq.rfl, if_true] at h1 ⊢
  exact h1
theorem Run.guardN {op : Op} {j d : Nat} {want : Bool} {v : Value} (hj : gdst all j = some d) (hb : e.get d = some v) (hbw : v ≠ .bool want) (hd : dstOk n dst = true)
    (h : Run P n Q g (.ops all rest :: k) (e.put dst undef) D M) : Run P n Q g (.ops all (⟨dst, op, ty, pos, af, some (j, want)⟩ :: rest) :: k) e D M := by
  intro a w he hdf hs
  show wpList P all (itp P Q k) _ a w
  have hyl : (yielded all a.tmps j == some want) = false := by
    unfold yielded
    have h1 : (all[j]?).bind (·.dst) = some d := by
      unfold gdst at hj
      rw [← Array.getElem?_toList]
      cases ho : all.toList[j]? with
      | none => rw [ho] at hj; cases hj
      | some o => rw [ho] at hj; simpa using hj
    rw [h1]
    simp only [Option.bind_some, he.at_ d _ hb]
    cases v <;> first | rfl | skip
    rename_i b
    cases b <;> cases want <;> first | rfl | exact absurd rfl hbw
  unfold wpList
  simp only [Region.wanted, hyl, Bool.false_eq_true, if_false]
  exact h _ w (he.put hd undef) (by rw [Act.put_defers']; exact hdf) hs
theorem Run.guardF {op : Op} {j d : Nat} {want b : Bool} (hj : gdst all j = some d) (hb : e.get d = some (.bool b)) (hbw : b = !want) (hd : dstOk n dst = true)
    (h : Run P n Q g (.ops all rest :: k) (e.put dst undef) D M) : Run P n Q g (.ops all (⟨dst, op, ty, pos, af, some (j, want)⟩ :: rest) :: k) e D M :=
  Run.guardN hj hb (by subst hbw; cases want <;> (intro hq; injection hq with hq; cases hq)) hd h
/-! ### values -/
theorem Run.move {x : Operand} {v : Value} (hx : e.ev x = some v) (hd : dstOk n dst = true) (h : Run P n Q g (.ops all rest :: k) (e.put dst v) D M) : Run P n Q g (.ops all (⟨dst, .move x, ty, pos, af, none⟩ :: rest) :: k) e D M :=
  Run.val v hd (fun a he w hs => by simp only [execOp, he.ev hx]; rfl) h
theorem Run.assign {x : Operand} {v : Value} (hx : e.ev x = some v) (hd : dstOk n dst = true) (h : Run P n Q g (.ops all rest :: k) (e.put dst v) D M) : Run P n Q g (.ops all (⟨dst, .assign x, ty, pos, af, none⟩ :: rest) :: k) e D M :=
  Run.val v hd (fun a he w hs => by simp only [execOp, he.ev hx]; rfl) h
theorem Run.pickT {c x y : Operand} {b : Bool} {v : Value} (hc : e.ev c = some (.bool b)) (hb : b = true) (hx : e.ev x = some v) (hd : dstOk n dst = true) (h : Run P n Q g (.ops all rest :: k) (e.put dst v) D M) :
    Run P n Q g (.ops all (⟨dst, .pick c x y, ty, pos, af, none⟩ :: rest) :: k) e D M :=
  Run.val v hd (fun a he w hs => by subst hb; simp only [execOp, he.ev hc, he.ev hx]; rfl) h
theorem Run.pickF {c x y : Operand} {b : Bool} {v : Value} (hc : e.ev c = some (.bool b)) (hb : b = false) (hx : e.ev y = some v) (hd : dstOk n dst = true) (h : Run P n Q g (.ops all rest :: k) (e.put dst v) D M) :
    Run P n Q g (.ops all (⟨dst, .pick c x y, ty, pos, af, none⟩ :: rest) :: k) e D M :=
  Run.val v hd (fun a he w hs => by subst hb; simp only [execOp, he.ev hc, he.ev hx]; rfl) h
theorem Run.nilCheck {x : Operand} {a : Addr} (hx : e.ev x = some (.pointer (some a))) (hd : dstOk n dst = true) (h : Run P n Q g (.ops all rest :: k) (e.put dst (.pointer (some a))) D M) :
    Run P n Q g (.ops all (⟨dst, .nilCheck x, ty, pos, af, none⟩ :: rest) :: k) e D M :=
  Run.val _ hd (fun a' he w hs => by simp only [execOp, he.ev hx]; rfl) h
theorem Run.nilCheckFn {x : Operand} {f : FuncId} {c d : Array Value} (hx : e.ev x = some (.func (.func f) c d)) (hd : dstOk n dst = true) (h : Run P n Q g (.ops all rest :: k) (e.put dst (.func (.func f) c d)) D M) :
    Run P n Q g (.ops all (⟨dst, .nilCheck x, ty, pos, af, none⟩ :: rest) :: k) e D M :=
  Run.val _ hd (fun a' he w hs => by simp only [execOp, he.ev hx]; rfl) h
theorem Run.not {t : TypeId} {x : Operand} {b : Bool} (hx : e.ev x = some (.bool b)) (hd : dstOk n dst = true) (h : Run P n Q g (.ops all rest :: k) (e.put dst (.bool !b)) D M) :
    Run P n Q g (.ops all (⟨dst, .unOp .not t x, ty, pos, af, none⟩ :: rest) :: k) e D M :=
  Run.val _ hd (fun a' he w hs => by simp only [execOp, he.ev hx]; rfl) h
theorem Run.makeFunc {fn : Fn} {f c : List Operand} {vf vc : List Value} (hf : e.evs f = some vf) (hc : e.evs c = some vc) (hd : dstOk n dst = true) (h : Run P n Q g (.ops all rest :: k) (e.put dst (.func fn vf.toArray vc.toArray)) D M) :
    Run P n Q g (.ops all (⟨dst, .makeFunc fn f.toArray c.toArray, ty, pos, af, none⟩ :: rest) :: k) e D M :=
  Run.val _ hd (fun a' he w hs => by
    simp only [execOp, List.map_toArray, he.evs hf, he.evs hc]; rfl) h
theorem Run.extract {x : Operand} {i : Nat} {vs : List Value} {v : Value} (hx : e.ev x = some (.tuple vs.toArray)) (hi : vs[i]? = some v) (hd : dstOk n dst = true) (h : Run P n Q g (.ops all rest :: k) (e.put dst v) D M) :
    Run P n Q g (.ops all (⟨dst, .extract x i, ty, pos, af, none⟩ :: rest) :: k) e D M :=
  Run.val _ hd (fun a' he w hs => by simp only [execOp, he.ev hx, Instr.extract, List.getElem?_toArray, hi]; rfl) h

/-! ### whole numbers -/
def cmpB : BinOp → Int → Int → Option Bool
  | .eql, x, y => some (decide (x = y))
  | .neq, x, y => some (!decide (x = y))
  | .lss, x, y => some (decide (x < y))
  | .leq, x, y => some (decide (x ≤ y))
  | .gtr, x, y => some (decide (y < x))
  | .geq, x, y => some (decide (y ≤ x))
  | _, _, _ => none
theorem eqGuard_int (op : BinOp) (t : TypeId) (x y : Operand) (kd kd' : IntKind) (a b : Int) : eqGuard op t x y (.int kd a) (.int kd' b) = (pure () : Sem Unit) := by cases op <;> rfl
theorem binOp_cmp {op : BinOp} {t : TypeId} {kd : IntKind} {a b : Int} {r : Bool} (hr : cmpB op a b = some r) : binOp op t (.int kd a) (.int kd b) = (pure (.bool r) : Sem Value) := by
  cases op <;> simp only [cmpB, Option.some.injEq, reduceCtorEq] at hr <;> subst hr <;> unfold binOp <;> simp only [ne_eq, not_true_eq_false, if_false] <;> unfold Op.intCmp <;> simp only [] <;> first | rfl | (by_cases h : a = b <;> simp [h])
theorem Run.cmp {op : BinOp} {t t' : TypeId} {x y : Operand} {kd : IntKind} {a b : Int} {r : Bool} (hx : e.ev x = some (.int kd a)) (hy : e.ev y = some (.int kd b)) (hr : cmpB op a b = some r)
    (hd : dstOk n dst = true) (h : Run P n Q g (.ops all rest :: k) (e.put dst (.bool r)) D M) : Run P n Q g (.ops all (⟨dst, .binOp op t x y t', ty, pos, af, none⟩ :: rest) :: k) e D M :=
  Run.val _ hd (fun a' he w hs => by
    simp only [execOp, he.ev hx, he.ev hy, eqGuard_int, binOp_cmp hr]; rfl) h
theorem Run.arith {op : BinOp} {t t' : TypeId} {x y : Operand} {kd : IntKind} {a b r : Int} (hx : e.ev x = some (.int kd a)) (hy : e.ev y = some (.int kd b))
    (hr : (op = .add ∧ kd.wrap (a + b) = r) ∨ (op = .sub ∧ kd.wrap (a - b) = r) ∨ (op = .mul ∧ kd.wrap (a * b) = r))
    (hd : dstOk n dst = true) (h : Run P n Q g (.ops all rest :: k) (e.put dst (.int kd r)) D M) : Run P n Q g (.ops all (⟨dst, .binOp op t x y t', ty, pos, af, none⟩ :: rest) :: k) e D M :=
  Run.val _ hd (fun a' he w hs => by
    simp only [execOp, he.ev hx, he.ev hy]
    rcases hr with ⟨rfl, rfl⟩ | ⟨rfl, rfl⟩ | ⟨rfl, rfl⟩ <;> simp [binOp, Op.intArith, eqGuard, bind, pure, Sem.bind, Sem.run]) h
theorem Run.add {t t' : TypeId} {x y : Operand} {kd : IntKind} {a b r : Int} (hx : e.ev x = some (.int kd a)) (hy : e.ev y = some (.int kd b)) (hr : kd.wrap (a + b) = r)
    (hd : dstOk n dst = true) (h : Run P n Q g (.ops all rest :: k) (e.put dst (.int kd r)) D M) : Run P n Q g (.ops all (⟨dst, .binOp .add t x y t', ty, pos, af, none⟩ :: rest) :: k) e D M := Run.arith hx hy (.inl ⟨rfl, hr⟩) hd h
theorem Run.subt {t t' : TypeId} {x y : Operand} {kd : IntKind} {a b r : Int} (hx : e.ev x = some (.int kd a)) (hy : e.ev y = some (.int kd b)) (hr : kd.wrap (a - b) = r)
    (hd : dstOk n dst = true) (h : Run P n Q g (.ops all rest :: k) (e.put dst (.int kd r)) D M) : Run P n Q g (.ops all (⟨dst, .binOp .sub t x y t', ty, pos, af, none⟩ :: rest) :: k) e D M := Run.arith hx hy (.inr (.inl ⟨rfl, hr⟩)) hd h
theorem Run.mul {t t' : TypeId} {x y : Operand} {kd : IntKind} {a b r : Int} (hx : e.ev x = some (.int kd a)) (hy : e.ev y = some (.int kd b)) (hr : kd.wrap (a * b) = r)
    (hd : dstOk n dst = true) (h : Run P n Q g (.ops all rest :: k) (e.put dst (.int kd r)) D M) : Run P n Q g (.ops all (⟨dst, .binOp .mul t x y t', ty, pos, af, none⟩ :: rest) :: k) e D M := Run.arith hx hy (.inr (.inr ⟨rfl, hr⟩)) hd h
theorem Run.rem {t t' : TypeId} {x y : Operand} {kd : IntKind} {a b r : Int} (hx : e.ev x = some (.int kd a)) (hy : e.ev y = some (.int kd b)) (h0 : b ≠ 0) (hr : a.tmod b = r)
    (hd : dstOk n dst = true) (h : Run P n Q g (.ops all rest :: k) (e.put dst (.int kd r)) D M) : Run P n Q g (.ops all (⟨dst, .binOp .rem t x y t', ty, pos, af, none⟩ :: rest) :: k) e D M :=
  Run.val _ hd (fun a' he w hs => by
    simp only [execOp, he.ev hx, he.ev hy]
    subst hr; simp [binOp, Op.intDiv, eqGuard, bind, pure, Sem.bind, Sem.run, h0]) h
theorem Run.shr {t t' : TypeId} {x y : Operand} {kd ky : IntKind} {a b r : Int} (hx : e.ev x = some (.int kd a)) (hy : e.ev y = some (.int ky b)) (h0 : 0 ≤ b) (hr : a.fdiv (2 ^ (min b.toNat kd.bits)) = r)
    (hd : dstOk n dst = true) (h : Run P n Q g (.ops all rest :: k) (e.put dst (.int kd r)) D M) : Run P n Q g (.ops all (⟨dst, .binOp .shr t x y t', ty, pos, af, none⟩ :: rest) :: k) e D M :=
  Run.val _ hd (fun a' he w hs => by
    simp only [execOp, he.ev hx, he.ev hy]
    subst hr; simp [binOp, Op.shift, eqGuard, bind, pure, Sem.bind, Sem.run, show ¬ b < 0 by omega]) h
theorem Run.shl {t t' : TypeId} {x y : Operand} {kd ky : IntKind} {a b r : Int} (hx : e.ev x = some (.int kd a)) (hy : e.ev y = some (.int ky b)) (h0 : 0 ≤ b) (hr : kd.wrap (a * 2 ^ (min b.toNat kd.bits)) = r)
    (hd : dstOk n dst = true) (h : Run P n Q g (.ops all rest :: k) (e.put dst (.int kd r)) D M) : Run P n Q g (.ops all (⟨dst, .binOp .shl t x y t', ty, pos, af, none⟩ :: rest) :: k) e D M :=
  Run.val _ hd (fun a' he w hs => by
    simp only [execOp, he.ev hx, he.ev hy]
    subst hr; simp [binOp, Op.shift, eqGuard, bind, pure, Sem.bind, Sem.run, show ¬ b < 0 by omega]) h
theorem Run.band {t t' : TypeId} {x y : Operand} {kd : IntKind} {a b r : Int} (hx : e.ev x = some (.int kd a)) (hy : e.ev y = some (.int kd b)) (hr : kd.wrap ((BitVec.ofInt kd.bits a &&& BitVec.ofInt kd.bits b).toNat) = r)
    (hd : dstOk n dst = true) (h : Run P n Q g (.ops all rest :: k) (e.put dst (.int kd r)) D M) : Run P n Q g (.ops all (⟨dst, .binOp .and t x y t', ty, pos, af, none⟩ :: rest) :: k) e D M :=
  Run.val _ hd (fun a' he w hs => by
    simp only [execOp, he.ev hx, he.ev hy]
    subst hr; simp [binOp, Op.intBits, eqGuard, bind, pure, Sem.bind, Sem.run]) h
theorem Run.bor {t t' : TypeId} {x y : Operand} {kd : IntKind} {a b r : Int} (hx : e.ev x = some (.int kd a)) (hy : e.ev y = some (.int kd b)) (hr : kd.wrap ((BitVec.ofInt kd.bits a ||| BitVec.ofInt kd.bits b).toNat) = r)
    (hd : dstOk n dst = true) (h : Run P n Q g (.ops all rest :: k) (e.put dst (.int kd r)) D M) : Run P n Q g (.ops all (⟨dst, .binOp .or t x y t', ty, pos, af, none⟩ :: rest) :: k) e D M :=
  Run.val _ hd (fun a' he w hs => by
    simp only [execOp, he.ev hx, he.ev hy]
    subst hr; simp [binOp, Op.intBits, eqGuard, bind, pure, Sem.bind, Sem.run]) h
theorem Run.convInt {s t : TypeId} {x : Operand} {kd kd' : IntKind} {us : TypeDesc} {a r : Int} (hs : ∀ w, (underlying s).run P w = .ok us w) (ht : ∀ w, (underlying t).run P w = .ok (.int kd) w) (hx : e.ev x = some (.int kd' a)) (hr : kd.wrap a = r)
    (hd : dstOk n dst = true) (h : Run P n Q g (.ops all rest :: k) (e.put dst (.int kd r)) D M) : Run P n Q g (.ops all (⟨dst, .convert s t x, ty, pos, af, none⟩ :: rest) :: k) e D M :=
  Run.val _ hd (fun a' he w hs' => by
    simp only [execOp, he.ev hx, convert, Sem.run_bind, hs, ht, Result.andThen_ok]
    subst hr
    cases us <;> simp [Conv.intToInt, Sem.run, pure]) h
theorem wrap_i64 {x : Int} (h1 : -9223372036854775808 ≤ x) (h2 : x ≤ 9223372036854775807) : IntKind.i64.wrap x = x := IntWalk.i64_in _ (by omega)
theorem shr_i64 (a : Int) (k : Nat) (h : k ≤ 64) : a.fdiv (2 ^ (min (k : Int).toNat IntKind.i64.bits)) = a / 2 ^ k := by
  have h2 : min k IntKind.i64.bits = k := Nat.min_eq_left h
  rw [Int.toNat_natCast, h2, Int.fdiv_eq_ediv_of_nonneg _ (Int.pow_nonneg (by decide))]
theorem wrap_u16 (x : Int) : IntKind.u16.wrap x = x % 65536 := by simp [IntKind.wrap, IntKind.bits, IntKind.signed]
theorem wrap_u8 (x : Int) : IntKind.u8.wrap x = x % 256 := by simp [IntKind.wrap, IntKind.bits, IntKind.signed]
theorem wrap_u64 (x : Int) : IntKind.u64.wrap x = x % 18446744073709551616 := by simp [IntKind.wrap, IntKind.bits, IntKind.signed]
theorem wrap_u32 (x : Int) : IntKind.u32.wrap x = x % 4294967296 := by simp [IntKind.wrap, IntKind.bits, IntKind.signed]
end
end Go.Proofs.YtgdpjpmjcpieiaaGreat

/- The engine's rules for memory: variables, structs, slices, append, calls. No condition. -/
namespace Go.Proofs.YtgdpjpmjcpieiaaGreat
open Go
set_option linter.unusedVariables false
set_option linter.unusedSimpArgs false

/-! ### 1. What a cell holds -/
def takeN : Nat → Nat → List Value → Option (List Value)
  | 0, 0, _ => some []
  | 0, _ + 1, [] => none
  | 0, n + 1, v :: r => match takeN 0 n r with
    | none => none
    | some vs => some (v :: vs)
  | _ + 1, _, [] => none
  | k + 1, n, _ :: r => takeN k n r
theorem takeN_spec : ∀ {k n : Nat} {l vs : List Value}, takeN k n l = some vs → vs.length = n ∧ ∀ j, j < n → l[k + j]? = vs[j]?
  | 0, 0, l, vs, h => by simp [takeN] at h; subst h; simp
  | 0, n + 1, [], vs, h => by simp [takeN] at h
  | 0, n + 1, v :: r, vs, h => by
    unfold takeN at h
    split at h
    · cases h
    · rename_i us hus
      injection h with h
      subst h
      obtain ⟨h1, h2⟩ := takeN_spec hus
      refine ⟨by simp [h1], fun j hj => ?_⟩
      cases j with
      | zero => simp
      | succ j => have := h2 j (by omega); simpa [Nat.add_comm, Nat.add_left_comm] using this
  | k + 1, n, [], vs, h => by simp [takeN] at h
  | k + 1, n, v :: r, vs, h => by
    obtain ⟨h1, h2⟩ := takeN_spec (k := k) (l := r) (by simpa [takeN] using h)
    exact ⟨h1, fun j hj => by have := h2 j hj; simpa [Nat.add_right_comm k 1 j] using this⟩
/-- vs laid over l from k on -/
def layN : Nat → List Value → List Value → Option (List Value)
  | 0, l, [] => some l
  | 0, [], _ :: _ => none
  | 0, _ :: r, v :: vs => match layN 0 r vs with
    | none => none
    | some l => some (v :: l)
  | _ + 1, [], _ => none
  | k + 1, x :: r, vs => match layN k r vs with
    | none => none
    | some l => some (x :: l)
theorem layN_spec : ∀ {k : Nat} {l vs l' : List Value}, layN k l vs = some l' → l' = l.take k ++ vs ++ l.drop (k + vs.length) ∧ k + vs.length ≤ l.length
  | 0, l, [], l', h => by simp [layN] at h; subst h; simp
  | 0, [], _ :: _, l', h => by simp [layN] at h
  | 0, x :: r, v :: vs, l', h => by
    unfold layN at h
    split at h
    · cases h
    · rename_i q hq
      injection h with h
      subst h
      obtain ⟨h1, h2⟩ := layN_spec hq
      subst h1
      simp at h2 ⊢
      exact h2
  | k + 1, [], vs, l', h => by simp [layN] at h
  | k + 1, x :: r, vs, l', h => by
    unfold layN at h
    split at h
    · cases h
    · rename_i q hq
      injection h with h
      subst h
      obtain ⟨h1, h2⟩ := layN_spec hq
      subst h1
      simp [Nat.add_right_comm k 1] at h2 ⊢
      omega
/-- block b is known to be o -/
def Blk (D : Dict) (M : MList) (b : Nat) (o : Obj) : Prop := D b = some o ∨ (b, o) ∈ M
theorem Blk.at_ {g : Gl} {w : World} {D : Dict} {M : MList} {b : Nat} {o : Obj} (h : Blk D M b o) (hs : St g w D M) : w.heap[b]? = some o := by
  rcases h with h | h
  · exact hs.imm b o h
  · exact hs.mt _ h
/-- the cells from an address on -/
def Cs (D : Dict) (M : MList) (b off : Nat) (vs : List Value) : Prop := ∃ c T fr, Blk D M b (.cells c T fr) ∧ ∀ j u, vs[j]? = some u → c[off + j]? = some u
theorem Cs.mk {D : Dict} {M : MList} {b off : Nat} {vs l : List Value} {T : TypeId} {fr : Nat × Nat} (h : Blk D M b (.cells l.toArray T fr)) (ht : takeN off vs.length l = some vs) : Cs D M b off vs := by
  refine ⟨_, T, fr, h, fun j u hu => ?_⟩
  have hj : j < vs.length := by
    rcases Nat.lt_or_ge j vs.length with h | h
    · exact h
    · rw [List.getElem?_eq_none h] at hu; cases hu
  rw [List.getElem?_toArray, (takeN_spec ht).2 j hj]; exact hu
theorem Cs.mkM {D : Dict} {M : MList} {b off n : Nat} {vs l : List Value} {T : TypeId} {fr : Nat × Nat} (h : (b, Obj.cells l.toArray T fr) ∈ M) (ht : takeN off n l = some vs) : Cs D M b off vs :=
  Cs.mk (.inr h) (by rw [(takeN_spec ht).1]; exact ht)
theorem Cs.mkD {D : Dict} {M : MList} {b off n : Nat} {vs l : List Value} {T : TypeId} {fr : Nat × Nat} (h : D b = some (Obj.cells l.toArray T fr)) (ht : takeN off n l = some vs) : Cs D M b off vs :=
  Cs.mk (.inl h) (by rw [(takeN_spec ht).1]; exact ht)
theorem add_plain (b o j : Nat) : (⟨b, o, none⟩ : Addr).add j = ⟨b, o + j, none⟩ := by unfold Addr.add; split <;> simp_all
theorem Cs.cell {g : Gl} {w : World} {D : Dict} {M : MList} {b off : Nat} {vs : List Value} (h : Cs D M b off vs) (hs : St g w D M) : ∀ j u, vs[j]? = some u → w.cell? ((⟨b, off, none⟩ : Addr).add j) = some u := by
  obtain ⟨c, T, fr, hb, hc⟩ := h
  intro j u hu
  rw [add_plain]
  simp [World.cell?, hb.at_ hs, hc j u hu]

/-- what changes: one block of M -/
inductive MSet : MList → Nat → Obj → Obj → MList → Prop
  | here (M : MList) (b : Nat) (o o' : Obj) : MSet ((b, o) :: M) b o o' ((b, o') :: M)
  | there {M M' : MList} {b : Nat} {o o' : Obj} (p : Nat × Obj) : MSet M b o o' M' → MSet (p :: M) b o o' (p :: M')
theorem MSet.split {M M' : MList} {b : Nat} {o o' : Obj} (h : MSet M b o o' M') : ∃ A B, M = A ++ (b, o) :: B ∧ M' = A ++ (b, o') :: B := by
  induction h with
  | here M b o o' => exact ⟨[], M, rfl, rfl⟩
  | there p _ ih => obtain ⟨A, B, rfl, rfl⟩ := ih; exact ⟨p :: A, B, rfl, rfl⟩
theorem MSet.mem {M M' : MList} {b : Nat} {o o' : Obj} (h : MSet M b o o' M') : (b, o) ∈ M := by
  obtain ⟨A, B, rfl, rfl⟩ := h.split; simp
theorem St.mset {g : Gl} {w w' : World} {D : Dict} {M M' : MList} {b : Nat} {o o' : Obj} (h : St g w D M) (hm : MSet M b o o' M')
    (hos : w'.os = w.os) (hout : w'.output = w.output) (htape : w'.tape = w.tape) (hdrw : w.drawn ≤ w'.drawn) (hb : w'.heap[b]? = some o') (hr : ∀ c, c ≠ b → w'.heap[c]? = w.heap[c]?) : St g w' D M' := by
  obtain ⟨A, B, rfl, rfl⟩ := hm.split
  have h1 : St g w D ((b, o) :: (A ++ B)) := h.perm List.perm_middle.symm
  exact (h1.set hos hout htape hdrw hb hr).perm List.perm_middle

section
variable {P : Program} {n : Nat} {Q : Exit → Act → World → Prop} {g : Gl} {k : List It} {e : Env} {D : Dict} {M : MList}
  {all : Array Oper} {rest : List Oper} {dst : Option Nat} {ty : TypeId} {pos : String} {af : Array Edge}

/-! ### 2. New variables -/
theorem Run.new {op : Op} (o : Obj) (hd : dstOk n dst = true) (V : Nat → Value)
    (hv : ∀ a, EnvOk n e a → ∀ w, St g w D M → (execOp a.eval ⟨dst, op, ty, pos, af, none⟩).run P w = .ok (.value (V w.heap.size)) { w with heap := w.heap.push o })
    (h : ∀ b, D b = none → Run P n Q g (.ops all rest :: k) (e.put dst (V b)) D ((b, o) :: M)) : Run P n Q g (.ops all (⟨dst, op, ty, pos, af, none⟩ :: rest) :: k) e D M :=
  Run.eff (fun v D' M' => ∃ b, D b = none ∧ v = V b ∧ D' = D ∧ M' = (b, o) :: M) hd
    (fun a he w hs => ⟨_, _, D, _, hv a he w hs, hs.alloc o, w.heap.size, (hs.alloc o).dis _ (List.mem_cons_self ..), rfl, rfl, rfl⟩)
    (fun v D' M' ⟨b, hb, h1, h2, h3⟩ => by subst h1; subst h2; subst h3; exact h b hb)
theorem Run.allocA {t : TypeId} {cs : List Value} (hz : ∀ w, (zeroValue t).run P w = .ok (.agg cs.toArray) w) (hd : dstOk n dst = true)
    (h : ∀ b, D b = none → Run P n Q g (.ops all rest :: k) (e.put dst (.pointer (some ⟨b, 0, none⟩))) D ((b, .cells cs.toArray t (0, 0)) :: M)) : Run P n Q g (.ops all (⟨dst, .alloc t, ty, pos, af, none⟩ :: rest) :: k) e D M :=
  Run.new _ hd (fun b => .pointer (some ⟨b, 0, none⟩)) (fun a he w hs => by
    simp [execOp, Instr.alloc, Sem.run_bind, hz, newVar, newRow, newObj, Sem.run, Value.cells]) h
theorem Run.alloc1 {t : TypeId} {z : Value} (hz : ∀ w, (zeroValue t).run P w = .ok z w) (h1 : z.cells = #[z]) (hd : dstOk n dst = true)
    (h : ∀ b, D b = none → Run P n Q g (.ops all rest :: k) (e.put dst (.pointer (some ⟨b, 0, none⟩))) D ((b, .cells #[z] t (0, 0)) :: M)) : Run P n Q g (.ops all (⟨dst, .alloc t, ty, pos, af, none⟩ :: rest) :: k) e D M :=
  Run.new _ hd (fun b => .pointer (some ⟨b, 0, none⟩)) (fun a he w hs => by
    simp [execOp, Instr.alloc, Sem.run_bind, hz, newVar, newRow, newObj, Sem.run, h1]) h
theorem Run.boxA {t : TypeId} {x : Operand} {cs : List Value} (hx : e.ev x = some (.agg cs.toArray)) (hd : dstOk n dst = true)
    (h : ∀ b, D b = none → Run P n Q g (.ops all rest :: k) (e.put dst (.pointer (some ⟨b, 0, none⟩))) D ((b, .cells cs.toArray t (0, 0)) :: M)) : Run P n Q g (.ops all (⟨dst, .box t x, ty, pos, af, none⟩ :: rest) :: k) e D M :=
  Run.new _ hd (fun b => .pointer (some ⟨b, 0, none⟩)) (fun a he w hs => by
    simp [execOp, he.ev hx, Instr.box, Sem.run_bind, newVar, newRow, newObj, Sem.run, Value.cells]) h
theorem Run.box1 {t : TypeId} {x : Operand} {v : Value} (hx : e.ev x = some v) (h1 : v.cells = #[v]) (hd : dstOk n dst = true)
    (h : ∀ b, D b = none → Run P n Q g (.ops all rest :: k) (e.put dst (.pointer (some ⟨b, 0, none⟩))) D ((b, .cells #[v] t (0, 0)) :: M)) : Run P n Q g (.ops all (⟨dst, .box t x, ty, pos, af, none⟩ :: rest) :: k) e D M :=
  Run.new _ hd (fun b => .pointer (some ⟨b, 0, none⟩)) (fun a he w hs => by
    simp [execOp, he.ev hx, Instr.box, Sem.run_bind, newVar, newRow, newObj, Sem.run, h1]) h
theorem Run.makeMap {t : TypeId} (hd : dstOk n dst = true)
    (h : ∀ b, D b = none → Run P n Q g (.ops all rest :: k) (e.put dst (.map (some b))) D ((b, .map #[] 0) :: M)) : Run P n Q g (.ops all (⟨dst, .makeMap t none, ty, pos, af, none⟩ :: rest) :: k) e D M :=
  Run.new _ hd (fun b => .map (some b)) (fun a he w hs => by
    simp [execOp, Instr.makeMap, Sem.run_bind, newObj, Sem.run]) h

/-! ### 3. Structs by value -/
/-- parts laid over cells -/
def fillN : List (Nat × Nat) → List Value → List (Nat × List Value) → Option (List Value)
  | _, cs, [] => some cs
  | pl, cs, (i, vs) :: r => match pl[i]? with
    | none => none
    | some (off, sz) => match Nat.beq vs.length sz with
      | false => none
      | true => match layN off cs vs with
        | none => none
        | some cs' => fillN pl cs' r
def partCells (e : Env) : List (Nat × Operand) → Option (List (Nat × List Value))
  | [] => some []
  | (i, x) :: r => match e.ev x with
    | none => none
    | some v => match partCells e r with
      | none => none
      | some l => some ((i, v.cells.toList) :: l)
theorem foldl_lay (off : Nat) : ∀ (vs : List Value) (j : Nat) (cs : List Value), off + j + vs.length ≤ cs.length →
    (vs.zipIdx j).foldl (fun (cs : Array Value) (p : Value × Nat) => cs.setIfInBounds (off + p.2) p.1) cs.toArray = (cs.take (off + j) ++ vs ++ cs.drop (off + j + vs.length)).toArray
  | [], j, cs, _ => by simp
  | v :: vs, j, cs, h => by
    simp only [List.zipIdx_cons, List.foldl_cons, List.setIfInBounds_toArray]
    rw [foldl_lay off vs (j + 1) (cs.set (off + j) v) (by simp at h ⊢; omega)]
    congr 1
    have := list_seg_step cs (off + j) v vs (by simp at h; omega)
    simpa [Nat.add_assoc] using this
theorem fill_eq {e : Env} {a : Act} (he : EnvOk n e a) (pl : List (Nat × Nat)) : ∀ (ps : List (Nat × Operand)) (cs : List Value) (l : List (Nat × List Value)) (cs' : List Value),
    partCells e ps = some l → fillN pl cs l = some cs' → Instr.fill (pl[·]?) cs.toArray (ps.map fun (i, x) => (i, a.eval x)) = some cs'.toArray
  | [], cs, l, cs', hp, hf => by
    simp [partCells] at hp
    subst hp
    simp [fillN] at hf
    subst hf
    rfl
  | (i, x) :: ps, cs, l, cs', hp, hf => by
    unfold partCells at hp
    split at hp
    · cases hp
    · rename_i v hv
      split at hp
      · cases hp
      · rename_i l0 hl0
        injection hp with hp
        subst hp
        unfold fillN at hf
        split at hf
        · cases hf
        · rename_i off sz hpl
          split at hf
          · cases hf
          · rename_i hb
            split at hf
            · cases hf
            · rename_i cs1 hcs1
              have hlen : v.cells.toList.length = sz := Nat.eq_of_beq_eq_true hb
              obtain ⟨h1, h2⟩ := layN_spec hcs1
              simp only [List.map_cons, Instr.fill, hpl, he.ev hv]
              have hsz : v.cells.size = sz := by simpa using hlen
              have h2' : off + v.cells.size ≤ cs.length := by simpa using h2
              rw [if_neg (by simp [hsz]; omega)]
              have hfold : (v.cells.zipIdx.foldl (fun (cs : Array Value) (p : Value × Nat) => cs.setIfInBounds (off + p.2) p.1) cs.toArray) = cs1.toArray := by
                rw [← Array.foldl_toList, Array.toList_zipIdx]
                rw [foldl_lay off v.cells.toList 0 cs (by simpa using h2), h1]; rfl
              have := fill_eq he pl ps cs1 l0 cs' hl0 hf
              rw [← hfold] at this
              exact this
/-- where a struct's fields lie -/
def Places (P : Program) (t : TypeId) (pl : List (Nat × Nat)) : Prop :=
  ∃ fs, (∀ w, (underlying t).run P w = .ok (.struct fs) w) ∧ ∀ w, Sem.run P (fs.mapM fun (f : Field) => do pure (f.offset, ← sizeOf f.type)) w = .ok pl.toArray w
theorem Run.build {t : TypeId} {ps : List (Nat × Operand)} {zs cs : List Value} {pl : List (Nat × Nat)} {l : List (Nat × List Value)} (hz : ∀ w, (zeroValue t).run P w = .ok (.agg zs.toArray) w) (hp : Places P t pl)
    (hl : partCells e ps = some l) (hf : fillN pl zs l = some cs) (hd : dstOk n dst = true)
    (h : Run P n Q g (.ops all rest :: k) (e.put dst (.agg cs.toArray)) D M) : Run P n Q g (.ops all (⟨dst, .build t ps.toArray, ty, pos, af, none⟩ :: rest) :: k) e D M :=
  Run.val _ hd (fun a he w hs => by
    obtain ⟨fs, hu, hm⟩ := hp
    have := fill_eq he pl ps zs l cs hl hf
    simp only [execOp, Instr.build, Sem.run_bind, hz, hu, hm, Result.andThen_ok, Value.cells, List.map_toArray, List.getElem?_toArray]
    simp only [this]
    rfl) h
def reps (len : Nat) (zc : List Value) : List Value := (List.replicate len zc).flatten
theorem reps_eq (len : Nat) (c : Array Value) (zc : List Value) (hc : c = zc.toArray) (h0 : len * zc.length ≠ 0) : (Array.range (len * zc.length)).map (c[· % c.size]!) = (reps len zc).toArray := by
  subst hc
  have hpos : 0 < zc.length := Nat.pos_of_ne_zero (fun h => h0 (by rw [h, Nat.mul_zero]))
  apply Array.ext'
  apply List.ext_getElem?
  intro i
  have hlen : (reps len zc).length = len * zc.length := by simp [reps]
  rcases Nat.lt_or_ge i (len * zc.length) with hi | hi
  · have hm : i % zc.length < zc.length := Nat.mod_lt _ hpos
    have : (reps len zc)[i]? = zc[i % zc.length]? := by
      unfold reps
      clear hlen h0
      induction len generalizing i with
      | zero => omega
      | succ m ih =>
        rw [List.replicate_succ, List.flatten_cons, List.getElem?_append]
        split
        · rename_i h; rw [Nat.mod_eq_of_lt h]
        · rename_i h
          rw [ih (i - zc.length) (by rw [Nat.succ_mul] at hi; omega) (Nat.mod_lt _ hpos), ← Nat.mod_eq_sub_mod (by omega)]
    simp [Array.toList_map, this, hi, List.getElem?_range hi, List.getElem?_eq_getElem hm, getElem!_pos, hm]
  · rw [List.getElem?_eq_none (by simpa using hi), List.getElem?_eq_none (by simp only [hlen]; exact hi)]
theorem fill_range (len sz : Nat) : ∀ (qs : List (Nat × Value)) (cur : Array Value), (∀ q ∈ qs, q.1 < len) → Instr.fill (fun i => some (i * sz, sz)) cur qs = Instr.fill (((List.range len).map fun i => (i * sz, sz))[·]?) cur qs
  | [], cur, _ => rfl
  | q :: qs, cur, hq => by
    have hq1 : q.1 < len := hq q (List.mem_cons_self ..)
    have hg : ((List.range len).map fun i => (i * sz, sz))[q.1]? = some (q.1 * sz, sz) := by simp [List.getElem?_range hq1]
    obtain ⟨i, v⟩ := q
    simp only at hg
    unfold Instr.fill
    rw [hg]
    simp only
    split
    · rfl
    · exact fill_range len sz qs _ (fun q' hq' => hq q' (List.mem_cons_of_mem _ hq'))
theorem partCells_mem {e : Env} : ∀ {ps : List (Nat × Operand)} {l : List (Nat × List Value)}, partCells e ps = some l → ∀ p ∈ ps, ∃ p' ∈ l, p'.1 = p.1
  | [], _, _, p, hp => by cases hp
  | (i, x) :: ps, l, hl, p, hp => by
    unfold partCells at hl
    split at hl
    · cases hl
    · split at hl
      · cases hl
      · rename_i l0 hl0
        injection hl with hl
        subst hl
        rcases List.mem_cons.1 hp with rfl | hp
        · exact ⟨_, List.mem_cons_self .., rfl⟩
        · obtain ⟨p', h1, h2⟩ := partCells_mem hl0 p hp
          exact ⟨p', List.mem_cons_of_mem _ h1, h2⟩
theorem Run.buildSlice {t el : TypeId} {ps : List (Nat × Operand)} {zc cs : List Value} {len : Nat} {l : List (Nat × List Value)} (hu : ∀ w, (underlying t).run P w = .ok (.slice el) w) (hsz : ∀ w, (sizeOf el).run P w = .ok zc.length w)
    {z : Value} (hz : ∀ w, (zeroValue el).run P w = .ok z w) (hzs : z.cells = zc.toArray) (h24 : len * zc.length ≤ 2 ^ 24) (hne : len * zc.length ≠ 0)
    (hl : partCells e ps = some l) (hf : fillN ((List.range len).map fun i => (i * zc.length, zc.length)) (reps len zc) l = some cs) (hd : dstOk n dst = true) (hlt : ∀ p ∈ l, p.1 < len)
    (h : ∀ b, D b = none → Run P n Q g (.ops all rest :: k) (e.put dst (.slice (some ⟨b, 0, none⟩) len len)) D ((b, .cells cs.toArray el (0, 0)) :: M)) : Run P n Q g (.ops all (⟨dst, .buildSlice t len ps.toArray, ty, pos, af, none⟩ :: rest) :: k) e D M :=
  Run.new _ hd (fun b => .slice (some ⟨b, 0, none⟩) len len) (fun a he w hs => by
    have h1 := fill_eq he _ ps (reps len zc) l cs hl hf
    have h2 : Instr.fill (fun i => some (i * zc.length, zc.length)) (reps len zc).toArray (ps.map fun (i, x) => (i, a.eval x)) = some cs.toArray := by
      rw [← h1]
      refine fill_range len zc.length _ _ fun q hq => ?_
      obtain ⟨p, hp, rfl⟩ := List.mem_map.1 hq
      obtain ⟨p', h3, h4⟩ := partCells_mem hl p hp
      have := hlt p' h3
      simp only
      omega
    have h3 := reps_eq len z.cells zc hzs hne
    simp only [execOp, Instr.buildSlice, Sem.run_bind, hu, hsz, Result.andThen_ok, List.map_toArray]
    rw [if_neg (by omega)]
    simp only [if_neg hne, Sem.run_bind, hz, Result.andThen_ok, pure, Sem.run]
    rw [h3]
    simp only [h2, newRow, newObj, bind, Sem.bind, Sem.run, pure, Result.andThen]) h
/-- a field of a struct by value -/
theorem Run.field1 {t : TypeId} {x : Operand} {i : Nat} {fs : Array Field} {f : Field} {cs : List Value} {v : Value} (hu : ∀ w, (underlying t).run P w = .ok (.struct fs) w) (hf : fs[i]? = some f)
    (hA : ∀ w, (isAgg f.type).run P w = .ok false w) (hx : e.ev x = some (.agg cs.toArray)) (hc : cs[f.offset]? = some v) (hd : dstOk n dst = true)
    (h : Run P n Q g (.ops all rest :: k) (e.put dst v) D M) : Run P n Q g (.ops all (⟨dst, .field t x i, ty, pos, af, none⟩ :: rest) :: k) e D M :=
  Run.val _ hd (fun a he w hs => by
    simp only [execOp, Instr.field, Sem.run_bind, hu, Result.andThen_ok, he.ev hx, hf, asAgg, pure, Sem.run, part, hA, Bool.false_eq_true, if_false, List.getElem?_toArray, hc]) h
theorem Run.fieldA {t : TypeId} {x : Operand} {i sz : Nat} {fs : Array Field} {f : Field} {cs vs : List Value} (hu : ∀ w, (underlying t).run P w = .ok (.struct fs) w) (hf : fs[i]? = some f)
    (hA : ∀ w, (isAgg f.type).run P w = .ok true w) (hS : ∀ w, (sizeOf f.type).run P w = .ok sz w) (hx : e.ev x = some (.agg cs.toArray)) (hc : takeN f.offset sz cs = some vs) (hd : dstOk n dst = true)
    (h : Run P n Q g (.ops all rest :: k) (e.put dst (.agg vs.toArray)) D M) : Run P n Q g (.ops all (⟨dst, .field t x i, ty, pos, af, none⟩ :: rest) :: k) e D M :=
  Run.val _ hd (fun a he w hs => by
    have hex : cs.toArray.extract f.offset (f.offset + sz) = vs.toArray := by
      obtain ⟨h1, h2⟩ := takeN_spec hc
      apply Array.ext'
      simp only [List.extract_toArray, List.extract_eq_take_drop]
      rw [Nat.add_sub_cancel_left]
      apply List.ext_getElem?
      intro j
      rw [List.getElem?_take]
      split
      · rename_i hj; rw [List.getElem?_drop]; exact h2 j hj
      · rename_i hj; rw [List.getElem?_eq_none (by omega)]
    simp only [execOp, Instr.field, Sem.run_bind, hu, Result.andThen_ok, he.ev hx, hf, asAgg, pure, Sem.run, part, hA, if_true, hS, hex]) h

/-! ### 4. Addresses, loads, stores -/
theorem Run.fieldAddr {t : TypeId} {x : Operand} {i b off sz : Nat} {fs : Array Field} {f : Field} (hu : ∀ w, (underlying t).run P w = .ok (.struct fs) w) (hf : fs[i]? = some f)
    (hS : ∀ w, (sizeOf f.type).run P w = .ok sz w) (h0 : sz ≠ 0) (hx : e.ev x = some (.pointer (some ⟨b, off, none⟩))) (hd : dstOk n dst = true)
    (h : Run P n Q g (.ops all rest :: k) (e.put dst (.pointer (some ⟨b, off + f.offset, none⟩))) D M) : Run P n Q g (.ops all (⟨dst, .fieldAddr t x i, ty, pos, af, none⟩ :: rest) :: k) e D M :=
  Run.val _ hd (fun a he w hs => by
    simp only [execOp, Instr.fieldAt, Sem.run_bind, hu, Result.andThen_ok, he.ev hx, hf, Instr.sureAddr, pure, Sem.run, fieldPlace, hS, if_neg h0, add_plain]) h
theorem Run.load1 {t : TypeId} {x : Operand} {b off : Nat} {v : Value} (hA : ∀ w, (isAgg t).run P w = .ok false w) (hx : e.ev x = some (.pointer (some ⟨b, off, none⟩))) (hc : Cs D M b off [v]) (hd : dstOk n dst = true)
    (h : Run P n Q g (.ops all rest :: k) (e.put dst v) D M) : Run P n Q g (.ops all (⟨dst, .load t x, ty, pos, af, none⟩ :: rest) :: k) e D M :=
  Run.val _ hd (fun a he w hs => by
    have h0 := hc.cell hs 0 v rfl
    rw [add_plain, Nat.add_zero] at h0
    simp only [execOp, Instr.loadAt, Sem.run_bind, he.ev hx, Instr.sureAddr, pure, Sem.run, loadVar, hA, Result.andThen_ok, Bool.false_eq_true, if_false, load, h0]) h
theorem Run.loadA {t : TypeId} {x : Operand} {b off : Nat} {vs : List Value} (hA : ∀ w, (isAgg t).run P w = .ok true w) (hS : ∀ w, (sizeOf t).run P w = .ok vs.length w) (hx : e.ev x = some (.pointer (some ⟨b, off, none⟩))) (hc : Cs D M b off vs) (hd : dstOk n dst = true)
    (h : Run P n Q g (.ops all rest :: k) (e.put dst (.agg vs.toArray)) D M) : Run P n Q g (.ops all (⟨dst, .load t x, ty, pos, af, none⟩ :: rest) :: k) e D M :=
  Run.val _ hd (fun a he w hs => by
    have h0 := run_loadCells_list (P := P) w ⟨b, off, none⟩ vs (hc.cell hs)
    simp [execOp, Instr.loadAt, Sem.run_bind, he.ev hx, Instr.sureAddr, pure, Sem.run, loadVar, hA, hS, h0, Result.andThen]) h
theorem setRow_other (w : World) (g : Nat) (cs : Array Value) {i : Nat} (h : i ≠ g) : (w.setRow g cs).heap[i]? = w.heap[i]? := by
  simp [World.setRow, Array.getElem?_modify, Ne.symm h]
theorem Run.storeL {t : TypeId} {x y : Operand} {b off : Nat} {v : Value} {l l' : List Value} {T : TypeId} {M' : MList} (hS : ∀ w, (sizeOf t).run P w = .ok v.cells.size w) (hx : e.ev x = some (.pointer (some ⟨b, off, none⟩))) (hy : e.ev y = some v)
    (h1 : ∀ u ∈ v.cells.toList, u.oneCell' = true) (hl : layN off l v.cells.toList = some l') (hm : MSet M b (.cells l.toArray T (0, 0)) (.cells l'.toArray T (0, 0)) M') (hd : dstOk n dst = true)
    (h : Run P n Q g (.ops all rest :: k) (e.put dst undef) D M') : Run P n Q g (.ops all (⟨dst, .store t x y, ty, pos, af, none⟩ :: rest) :: k) e D M := by
  refine Run.skp (fun D' M'' => D' = D ∧ M'' = M') hd (fun a he w hs => ?_) (fun _ _ ⟨h2, h3⟩ => by subst h2; subst h3; exact h)
  have hb := hs.mt _ hm.mem
  obtain ⟨e1, e2⟩ := layN_spec hl
  have hst := run_storeCells_at P b off T v.cells.toList 0 l.toArray w hb (by simpa using e2) h1
  refine ⟨w.setRow b l'.toArray, D, M', ?_, hs.mset hm rfl rfl rfl (Nat.le_refl _) ?_ (fun c hc => setRow_other _ _ _ hc), rfl, rfl⟩
  · simp only [execOp, Instr.storeAt, Sem.run_bind, he.ev hx, he.ev hy, Instr.sureAddr, pure, Sem.run, Result.andThen_ok, storeVar, hS, ne_eq, not_true_eq_false, if_false, hst]
    simp [e1]
  · exact setRow_heap w b l.toArray l'.toArray T (0, 0) hb

/-! ### 5. Slices -/
/-- a slice that reads as n elements, their cells in a row; what it leads to never changes -/
def Sl (D : Dict) (sz : Nat) (v : Value) (n : Nat) (fl : List Value) : Prop :=
  fl.length = n * sz ∧ n ≤ maxLen ∧ ∃ A cap, v = .slice A n cap ∧ n ≤ cap ∧ (0 < n → ∃ b off c T fr, A = some ⟨b, off, none⟩ ∧ D b = some (.cells c T fr) ∧ ∀ j u, fl[j]? = some u → c[off + j]? = some u)
theorem Sl.mono {D D' : Dict} {sz n : Nat} {v : Value} {fl : List Value} (h : Sl D sz v n fl) (hD : Le D D') : Sl D' sz v n fl := by
  obtain ⟨h1, hn, A, cap, h2, h3, h4⟩ := h
  refine ⟨h1, hn, A, cap, h2, h3, fun hp => ?_⟩
  obtain ⟨b, off, c, T, fr, e1, e2, e3⟩ := h4 hp
  exact ⟨b, off, c, T, fr, e1, hD _ _ e2, e3⟩
theorem Sl.nil (D : Dict) (sz : Nat) : Sl D sz (.slice none 0 0) 0 [] := ⟨by simp, by simp [maxLen], none, 0, rfl, Nat.le_refl _, fun h => by omega⟩
/-- a row of the call's own: it may be written; what room it has -/
def Own (sz : Nat) (T : TypeId) (v : Value) (n : Nat) (fl : List Value) (m : MList) : Prop :=
  fl.length = n * sz ∧ ((v = .slice none 0 0 ∧ n = 0 ∧ m = []) ∨
    ∃ b cap cur, v = .slice (some ⟨b, 0, none⟩) n cap ∧ m = [(b, .cells cur T (0, 0))] ∧ n ≤ cap ∧ cap ≤ maxLen ∧ cur.size = cap * sz ∧ cur.toList.take (n * sz) = fl)
theorem Own.nil (sz : Nat) (T : TypeId) : Own sz T (.slice none 0 0) 0 [] [] := ⟨by simp, .inl ⟨rfl, rfl, rfl⟩⟩
theorem Own.lit {sz : Nat} {T : TypeId} {b len : Nat} {cs : List Value} (h : cs.length = len * sz) (hm : len ≤ maxLen) : Own sz T (.slice (some ⟨b, 0, none⟩) len len) len cs [(b, .cells cs.toArray T (0, 0))] :=
  ⟨h, .inr ⟨b, len, cs.toArray, rfl, rfl, Nat.le_refl _, hm, by simpa using h, by simp [← h]⟩⟩
theorem Own.row {sz : Nat} {T : TypeId} {v : Value} {n : Nat} {fl : List Value} {m M : MList} (h : Own sz T v n fl m) {w : World} (hs : St g w D (m ++ M)) : w.ownsRow 0 T sz v n fl := by
  refine ⟨h.1, ?_⟩
  rcases h.2 with ⟨h1, h2, h3⟩ | ⟨b, cap, cur, h1, h2, h3, h4, h5, h6⟩
  · exact .inl ⟨h1, h2⟩
  · subst h2
    exact .inr ⟨b, cap, cur, h1, Nat.zero_le _, hs.mt (b, _) (by simp), h3, h4, h5, h6⟩
theorem St.dropL {g : Gl} {w : World} {D : Dict} {m M : MList} (h : St g w D (m ++ M)) : St g w D M := h.sub (List.sublist_append_right m M)
/-- an append has carried a row on -/
theorem Own.after {sz : Nat} {T : TypeId} {v v' : Value} {n n' : Nat} {fl fl' : List Value} {m M : MList} (h : Own sz T v n fl m) {w w' : World} (hs : St g w D (m ++ M))
    (hr : w'.ownsRow 0 T sz v' n' fl') (hg : w.grownBy w' v.ownBlock) (hdrw : w.drawn ≤ w'.drawn) (hb : v'.ownBlock = v.ownBlock ∨ v'.ownBlock = some w.heap.size) : ∃ m', Own sz T v' n' fl' m' ∧ St g w' D (m' ++ M) := by
  have hold : St g w' D M := by
    refine ⟨hg.os.trans hs.os, hg.output.trans hs.out, hg.tape.trans hs.tape, fun b o hD => ?_, fun p hp => ?_, hs.dropL.nd, hs.dropL.dis, Nat.le_trans hs.drw hdrw⟩
    · rw [hg.block b (hs.lt hD) ?_]
      · exact hs.imm b o hD
      · intro he
        rcases h.2 with ⟨h1, h2, h3⟩ | ⟨b', cap, cur, h1, h2, _⟩
        · rw [h1] at he; cases he
        · rw [h1] at he
          injection he with he
          subst h2
          have := hs.dis (b', .cells cur T (0, 0)) (by simp)
          simp only at this
          rw [he] at hD
          simp only at hD
          rw [this] at hD; cases hD
    · have hp' : p ∈ m ++ M := List.mem_append_right _ hp
      rw [hg.block p.1 (hs.ltM hp') ?_]
      · exact hs.mt p hp'
      · intro he
        rcases h.2 with ⟨h1, h2, h3⟩ | ⟨b', cap, cur, h1, h2, _⟩
        · rw [h1] at he; cases he
        · rw [h1] at he
          injection he with he
          subst h2
          have := hs.nd
          simp only [List.cons_append, List.nil_append, List.map_cons, List.nodup_cons] at this
          exact this.1 (List.mem_map.2 ⟨p, hp, he⟩)
  rcases hr.2 with ⟨h1, h2⟩ | ⟨b, cap, cur, h1, _, h2, h3, h4, h5, h6⟩
  · exact ⟨[], ⟨hr.1, .inl ⟨h1, h2, rfl⟩⟩, hold⟩
  · refine ⟨[(b, .cells cur T (0, 0))], ⟨hr.1, .inr ⟨b, cap, cur, h1, rfl, h3, h4, h5, h6⟩⟩, ?_⟩
    have hbk : v'.ownBlock = some b := by rw [h1]; rfl
    have hbD : D b = none ∧ ∀ p ∈ M, p.1 ≠ b := by
      rcases hb with hb | hb
      · rw [hbk] at hb
        rcases h.2 with ⟨e1, _⟩ | ⟨b', cap', cur', e1, e2, _⟩
        · rw [e1] at hb; cases hb
        · rw [e1] at hb
          injection hb with hb
          simp only at hb
          subst hb
          subst e2
          refine ⟨hs.dis (b, .cells cur' T (0, 0)) (by simp), fun p hp he => ?_⟩
          have := hs.nd
          simp only [List.cons_append, List.nil_append, List.map_cons, List.nodup_cons] at this
          exact this.1 (List.mem_map.2 ⟨p, hp, he⟩)
      · rw [hbk] at hb
        injection hb with hb
        subst hb
        refine ⟨?_, fun p hp he => ?_⟩
        · cases hD : D w.heap.size with
          | none => rfl
          | some o => have := hs.lt hD; omega
        · have := hs.dropL.ltM hp; omega
    refine ⟨hold.os, hold.out, hold.tape, hold.imm, fun p hp => ?_, ?_, fun p hp => ?_, hold.drw⟩
    · rcases List.mem_cons.1 hp with rfl | hp
      · exact h2
      · exact hold.mt p hp
    · simp only [List.cons_append, List.nil_append, List.map_cons, List.nodup_cons]
      exact ⟨fun hm => by obtain ⟨p, hp, he⟩ := List.mem_map.1 hm; exact hbD.2 p hp he, hold.nd⟩
    · rcases List.mem_cons.1 hp with rfl | hp
      · exact hbD.1
      · exact hold.dis p hp
/-- what the call owned is never written again -/
theorem Own.freeze {sz : Nat} {T : TypeId} {v : Value} {n : Nat} {fl : List Value} {m : MList} (h : Own sz T v n fl m) (hm : n ≤ maxLen) : ∃ D', (∀ g w M, St g w D (m ++ M) → St g w D' M ∧ Le D D') ∧ Sl D' sz v n fl := by
  rcases h.2 with ⟨h1, h2, h3⟩ | ⟨b, cap, cur, h1, h2, h3, h4, h5, h6⟩
  · subst h3; subst h2; subst h1
    have : fl = [] := List.eq_nil_of_length_eq_zero (by simpa using h.1)
    subst this
    exact ⟨D, fun _ _ _ hs => ⟨hs, Le.rfl'⟩, Sl.nil D sz⟩
  · subst h2
    refine ⟨ins D b (.cells cur T (0, 0)), fun g w M hs => ⟨St.freeze hs, St.freeze_le hs⟩, h.1, hm, _, cap, h1, h3, fun hp => ⟨b, 0, cur, T, (0, 0), rfl, ins_same .., fun j u hu => ?_⟩⟩
    rw [← h6, List.getElem?_take] at hu
    split at hu
    · simpa using hu
    · cases hu
end
end Go.Proofs.YtgdpjpmjcpieiaaGreat

/- The engine's rules for calls, builtins, slices. No condition. -/
namespace Go.Proofs.YtgdpjpmjcpieiaaGreat
open Go
set_option linter.unusedVariables false
set_option linter.unusedSimpArgs false

/-! ### 1. Contracts -/
/-- called so in such a world, a function returns; K tells what, and what holds then -/
def Spec (P : Program) (g : Gl) (f : FuncId) (vs : List Value) (D : Dict) (M : MList) (K : Value → Dict → MList → Prop) : Prop :=
  ∀ w, St g w D M → Calls P f vs.toArray w (fun ex w' => ∃ v D' M', ex = .returned v ∧ St g w' D' M' ∧ K v D' M')
theorem Spec.mono {P : Program} {g : Gl} {f : FuncId} {vs : List Value} {D : Dict} {M : MList} {K K' : Value → Dict → MList → Prop} (h : Spec P g f vs D M K) (hK : ∀ v D' M', K v D' M' → K' v D' M') : Spec P g f vs D M K' :=
  fun w hs => (h w hs).mono fun _ _ ⟨v, D', M', h1, h2, h3⟩ => ⟨v, D', M', h1, h2, hK _ _ _ h3⟩
theorem Spec.st {P : Program} {g : Gl} {f : FuncId} {vs : List Value} {D D0 : Dict} {M M0 : MList} {K : Value → Dict → MList → Prop} (hst : ∀ w, St g w D M → St g w D0 M0) (h : Spec P g f vs D0 M0 K) : Spec P g f vs D M K :=
  fun w hs => h w (hst w hs)
/-- the frame that a function begins with -/
def argEnv : Nat → List Value → Env
  | _, [] => []
  | i, v :: r => (i, v) :: argEnv (i + 1) r
theorem argEnv_get : ∀ (vs : List Value) (i t : Nat) (v : Value), (argEnv i vs).get t = some v → ∃ j, t = i + j ∧ vs[j]? = some v
  | [], _, _, _, h => by cases h
  | u :: r, i, t, v, h => by
    unfold argEnv Env.get at h
    split at h
    · rename_i hb
      injection h with h
      exact ⟨0, by rw [← Nat.eq_of_beq_eq_true hb]; rfl, by simp [h]⟩
    · obtain ⟨j, h1, h2⟩ := argEnv_get r (i + 1) t v h
      exact ⟨j + 1, by omega, by simpa using h2⟩
theorem Spec.enter {P : Program} {g : Gl} {f : FuncId} {fn : Func} {c : Code} {vs : List Value} {n : Nat} {D : Dict} {M : MList} {K : Value → Dict → MList → Prop} (hf : P.funcs[f]? = some fn) (hb : fn.body = some c) (hn : fn.ntmps = n) (hl : Nat.ble vs.length n = true)
    (h : Run P n (bodyPost P fn (fun ex w' => ∃ v D' M', ex = .returned v ∧ St g w' D' M' ∧ K v D' M')) g [.code c] (argEnv 0 vs) D M) : Spec P g f vs D M K := by
  intro w hs
  have hl' : vs.length ≤ n := Nat.le_of_ble_eq_true hl
  refine calls_of_wp hf hb ?_
  refine h _ w ⟨?_, fun t v ht => ?_⟩ rfl hs
  · simp [hn]; omega
  · obtain ⟨j, h1, h2⟩ := argEnv_get vs 0 t v ht
    have hj : j < vs.length := by
      rcases Nat.lt_or_ge j vs.length with h | h
      · exact h
      · rw [List.getElem?_eq_none h] at h2; cases h2
    have : t = j := by omega
    subst this
    rw [Array.getElem?_append_left (by simpa using hj)]
    simpa using h2

section
variable {P : Program} {n : Nat} {Q : Exit → Act → World → Prop} {g : Gl} {k : List It} {e : Env} {D : Dict} {M : MList}
  {all : Array Oper} {rest : List Oper} {dst : Option Nat} {ty : TypeId} {pos : String} {af : Array Edge}

theorem Run.callV {x : Operand} {args : List Operand} {tys : Array TypeId} {f : FuncId} {fs cap vs : List Value} {K : Value → Dict → MList → Prop} (hf : ∀ args w, (callFunc f args).run P w = .ok (.enter f args) w)
    (hx : e.ev x = some (.func (.func f) fs.toArray cap.toArray)) (ha : e.evs args = some vs) (hd : dstOk n dst = true)
    (hc : Spec P g f (fs ++ vs ++ cap) D M K) (h : ∀ v D' M', K v D' M' → Run P n Q g (.ops all rest :: k) (e.put dst v) D' M') :
    Run P n Q g (.ops all (⟨dst, .call { callee := .value x, args := args.toArray, argTypes := tys }, ty, pos, af, none⟩ :: rest) :: k) e D M := by
  intro a w he hdf hs
  show wpList P all (itp P Q k) _ a w
  refine wpList_plain rfl fun K' hK => ?_
  unfold Oper.wp
  have hr : (execOp a.eval ⟨dst, .call { callee := .value x, args := args.toArray, argTypes := tys }, ty, pos, af, none⟩).run P w = .ok (.enter f (fs ++ vs ++ cap).toArray) w := by
    simp only [execOp, resolve, he.ev hx, List.map_toArray, he.evs ha, Deferred.ofValue, Sem.run_bind, pure, Sem.run, Result.andThen_ok, invoke]
    rw [← hf]
    simp
  rw [hr, Oper.upon_enter]
  refine (hc w hs).mono fun ex w' ⟨v, D', M', h1, h2, h3⟩ => ?_
  subst h1
  exact hK _ _ (h v D' M' h3 _ _ (he.put hd v) (by rw [Act.put_defers']; exact hdf) h2)
theorem Run.call {args : List Operand} {tys : Array TypeId} {f : FuncId} {vs : List Value} {K : Value → Dict → MList → Prop} (hf : ∀ args w, (callFunc f args).run P w = .ok (.enter f args) w)
    (ha : e.evs args = some vs) (hd : dstOk n dst = true) (hc : Spec P g f vs D M K) (h : ∀ v D' M', K v D' M' → Run P n Q g (.ops all rest :: k) (e.put dst v) D' M') :
    Run P n Q g (.ops all (⟨dst, .call { callee := .value (.func f), args := args.toArray, argTypes := tys }, ty, pos, af, none⟩ :: rest) :: k) e D M :=
  Run.callV (fs := []) (cap := []) hf rfl ha hd (by simpa using hc) h

/-! ### 2. Builtins -/
theorem Run.len {t : TypeId} {x : Operand} {A : Option Addr} {l c : Nat} {el : TypeId} (hu : ∀ w, (underlying t).run P w = .ok (.slice el) w) (hx : e.ev x = some (.slice A l c)) (hd : dstOk n dst = true)
    (h : Run P n Q g (.ops all rest :: k) (e.put dst (.int .i64 l)) D M) : Run P n Q g (.ops all (⟨dst, .call { callee := .builtin .len, args := #[x], argTypes := #[t] }, ty, pos, af, none⟩ :: rest) :: k) e D M :=
  Run.val _ hd (fun a he w hs => by
    simp [execOp, resolve, he.ev hx, Sem.run_bind, Sem.run_pure, invoke, builtin, Builtin.len_, hu, goInt, Result.andThen_ok]) h
theorem Run.cap {t : TypeId} {x : Operand} {A : Option Addr} {l c : Nat} {el : TypeId} (hu : ∀ w, (underlying t).run P w = .ok (.slice el) w) (hx : e.ev x = some (.slice A l c)) (hd : dstOk n dst = true)
    (h : Run P n Q g (.ops all rest :: k) (e.put dst (.int .i64 c)) D M) : Run P n Q g (.ops all (⟨dst, .call { callee := .builtin .cap, args := #[x], argTypes := #[t] }, ty, pos, af, none⟩ :: rest) :: k) e D M :=
  Run.val _ hd (fun a he w hs => by
    simp [execOp, resolve, he.ev hx, Sem.run_bind, Sem.run_pure, invoke, builtin, Builtin.cap_, hu, goInt, Result.andThen_ok]) h
/-- what is appended: cells that can be read -/
def Src (D : Dict) (M : MList) (sz : Nat) (x : Value) (m : Nat) (xs : List Value) : Prop :=
  xs.length = m * sz ∧ ∃ A c, x = .slice A m c ∧ (0 < m → ∃ b off, A = some ⟨b, off, none⟩ ∧ Cs D M b off xs)
theorem Sl.src {sz m : Nat} {x : Value} {xs : List Value} (h : Sl D sz x m xs) (M : MList) : Src D M sz x m xs := by
  obtain ⟨h1, hn, A, cap, h2, h3, h4⟩ := h
  refine ⟨h1, A, cap, h2, fun hp => ?_⟩
  obtain ⟨b, off, c, T, fr, e1, e2, e3⟩ := h4 hp
  exact ⟨b, off, e1, c, T, fr, .inl e2, e3⟩
theorem Own.src {sz m : Nat} {T : TypeId} {x : Value} {xs : List Value} {q : MList} (h : Own sz T x m xs q) (hM : ∀ p ∈ q, p ∈ M) : Src D M sz x m xs := by
  refine ⟨h.1, ?_⟩
  rcases h.2 with ⟨h1, h2, h3⟩ | ⟨b, cap, cur, h1, h2, h3, h4, h5, h6⟩
  · exact ⟨none, 0, by rw [h1, h2], fun hp => by omega⟩
  · refine ⟨_, cap, h1, fun _ => ⟨b, 0, rfl, cur, T, (0, 0), .inr (hM _ (by rw [h2]; simp)), fun j u hu => ?_⟩⟩
    rw [← h6, List.getElem?_take] at hu
    split at hu
    · simpa using hu
    · cases hu
theorem append_drawn (w : World) (t ty e : TypeId) (i : TypeInfo) (z : Value) (size bytes : Nat) (ht : P.underlying t = some (.slice e)) (hi : P.info? e = some i) (hz : i.zero = some z)
    (hsize : i.size = size) (hby : i.bytes = bytes) (hzs : z.cells.size = size) (hsz : 0 < size) (v : Value) (n : Nat) (xs : List Value) (hown : w.ownsRow 0 e size v n xs)
    (a : Addr) (m c : Nat) (news : List Value) (hl : news.length = m * size) (hnews : ∀ j u, news[j]? = some u → w.cell? (a.add j) = some u) (h1 : ∀ u ∈ news, u.oneCell' = true)
    (h63 : n + m ≤ maxLen) (hbytes : (n + m) * bytes ≤ 140737488355328) {v' : Value} {w' : World} (hr : (Builtin.append_ #[t, t] ty #[v, .slice (some a) m c]).run P w = .ok v' w') : w.drawn ≤ w'.drawn := by
  subst hsize
  subst hby
  have hsmall : n + m ≤ 9223372036854775807 := by simp only [maxLen] at h63; omega
  rcases hown.2 with ⟨rfl, rfl⟩ | ⟨g, cap, cur, rfl, hbg, hg, hnc, hcm, hcs, htake⟩
  · by_cases hm : m = 0
    · subst hm
      have hn : news = [] := List.eq_nil_of_length_eq_zero (by simpa using hl)
      subst hn
      have : (Builtin.append_ #[t, t] ty #[.slice none 0 0, .slice (some a) 0 c]).run P w = .ok (.slice none 0 0) w := by
        simp [Builtin.append_, run_underlying ht, sizeOf, typeInfo, hi, Builtin.lenOf, Builtin.firstCells, loadCells, loadCellsFrom]
      rw [this] at hr; injection hr with _ e2; exact e2 ▸ Nat.le_refl _
    · have h := run_append_nil (P := P) w t ty e i z ht hi hz a m c news hl hnews (by omega) (by omega) (by have hb := hbytes; simp only [Nat.zero_add] at hb; omega)
      rw [h] at hr; injection hr with _ e2; rw [← e2]; simp
  · by_cases hroom : n + m ≤ cap
    · have hfit : n * i.size + news.length ≤ cur.size := by rw [hl, hcs, ← Nat.add_mul]; exact Nat.mul_le_mul_right _ hroom
      have h := run_append_room (P := P) w t ty e i ht hi g n cap cur hg a m c news hl hnews h1 hroom hfit
      rw [h] at hr; injection hr with _ e2; rw [← e2]; simp
    · have holds : ∀ j u, xs[j]? = some u → w.cell? ((⟨g, 0, none⟩ : Addr).add j) = some u := hown.cells (g := g) rfl
      have h := run_append_grow (P := P) w t ty e i z ht hi hz ⟨g, 0, none⟩ n cap xs hown.1 holds a m c news hl hnews (by omega) (by omega) (growslice_fits (by omega) hbytes)
      rw [h] at hr; injection hr with _ e2; rw [← e2]; simp
theorem append_run {t ty' T : TypeId} {i : TypeInfo} {z : Value} {sz bytes : Nat} (ht : P.underlying t = some (.slice T)) (hi : P.info? T = some i) (hz : i.zero = some z) (hsize : i.size = sz) (hby : i.bytes = bytes) (hzs : z.cells.size = sz) (hsz : 0 < sz)
    {v x : Value} {l m : Nat} {fl xs : List Value} {q R : MList} (ho : Own sz T v l fl q) (hsrc : Src D (q ++ R) sz x m xs) (h1 : ∀ u ∈ xs, u.oneCell' = true) (h63 : l + m ≤ maxLen) (hbytes : (l + m) * bytes ≤ 140737488355328) {w : World} (hs : St g w D (q ++ R)) :
    ∃ v' w', (Builtin.append_ #[t, t] ty' #[v, x]).run P w = .ok v' w' ∧ ∃ q', Own sz T v' (l + m) (fl ++ xs) q' ∧ St g w' D (q' ++ R) := by
  obtain ⟨hxl, A, c, rfl, hA⟩ := hsrc
  rcases Nat.eq_zero_or_pos m with h0 | hp
  · subst h0
    have hxs : xs = [] := List.eq_nil_of_length_eq_zero (by simpa using hxl)
    subst hxs
    refine ⟨v, w, ?_, q, by simpa using ho, hs⟩
    rcases ho.2 with ⟨rfl, rfl, rfl⟩ | ⟨b, cap, cur, rfl, rfl, h3, h4, h5, h6⟩
    · cases A <;> simp [Builtin.append_, run_underlying ht, sizeOf, typeInfo, hi, Builtin.lenOf, Builtin.firstCells, loadCells, loadCellsFrom]
    · cases A <;> simp [Builtin.append_, run_underlying ht, sizeOf, typeInfo, hi, Builtin.lenOf, Builtin.firstCells, h3, storeCells, loadCells, loadCellsFrom]
  · obtain ⟨b, off, rfl, hcs⟩ := hA hp
    obtain ⟨v', w', hr, hown, hg, _, hat⟩ := run_append_own_at (P := P) w 0 t ty' T i z sz bytes ht hi hz hsize hby hzs hsz v l fl (ho.row hs) ⟨b, off, none⟩ m c xs hxl (hcs.cell hs) h1 h63 hbytes (Nat.zero_le _)
    have hdr := append_drawn (P := P) w t ty' T i z sz bytes ht hi hz hsize hby hzs hsz v l fl (ho.row hs) ⟨b, off, none⟩ m c xs hxl (hcs.cell hs) h1 h63 hbytes hr
    obtain ⟨q', h2, h3⟩ := ho.after hs hown hg hdr hat
    exact ⟨v', w', hr, q', h2, h3⟩
theorem Run.append {s x : Operand} {t T : TypeId} {i : TypeInfo} {z : Value} {sz bytes : Nat} (ht : P.underlying t = some (.slice T)) (hi : P.info? T = some i) (hz : i.zero = some z) (hsize : i.size = sz) (hby : i.bytes = bytes) (hzs : z.cells.size = sz) (hsz : 0 < sz)
    {v xv : Value} {l m : Nat} {fl xs : List Value} {q R : MList} (hv : e.ev s = some v) (hx : e.ev x = some xv) (hM : M.Perm (q ++ R)) (ho : Own sz T v l fl q) (hsrc : Src D (q ++ R) sz xv m xs) (h1 : ∀ u ∈ xs, u.oneCell' = true) (h63 : l + m ≤ maxLen) (hbytes : (l + m) * bytes ≤ 140737488355328)
    (hd : dstOk n dst = true) (h : ∀ v' q', Own sz T v' (l + m) (fl ++ xs) q' → Run P n Q g (.ops all rest :: k) (e.put dst v') D (q' ++ R)) :
    Run P n Q g (.ops all (⟨dst, .call { callee := .builtin .append, args := #[s, x], argTypes := #[t, t] }, ty, pos, af, none⟩ :: rest) :: k) e D M :=
  Run.eff (fun v' D' M' => ∃ q', Own sz T v' (l + m) (fl ++ xs) q' ∧ D' = D ∧ M' = q' ++ R) hd (fun a he w hs => by
    have hs' : St g w D (q ++ R) := hs.perm hM.symm
    obtain ⟨v', w', hr, q', h2, h3⟩ := append_run (ty' := ty) ht hi hz hsize hby hzs hsz ho hsrc h1 h63 hbytes hs'
    refine ⟨v', w', D, q' ++ R, ?_, h3, q', h2, rfl, rfl⟩
    simp [execOp, resolve, he.ev hv, he.ev hx, Sem.run_bind, Sem.run_pure, invoke, builtin, hr, Result.andThen_ok])
    (fun v' D' M' ⟨q', h2, h3, h4⟩ => by subst h3; subst h4; exact h v' q' h2)

/-! ### 3. Slices: elements, cuts, make -/
theorem Run.indexAddr {t el : TypeId} {x i : Operand} {b off l c sz : Nat} {kd : IntKind} {j : Int} (hu : ∀ w, (underlying t).run P w = .ok (.slice el) w) (hS : ∀ w, (sizeOf el).run P w = .ok sz w)
    (hx : e.ev x = some (.slice (some ⟨b, off, none⟩) l c)) (hi : e.ev i = some (.int kd j)) (h0 : 0 ≤ j) (h1 : j < l) (hd : dstOk n dst = true)
    (h : Run P n Q g (.ops all rest :: k) (e.put dst (.pointer (some ⟨b, off + j.toNat * sz, none⟩))) D M) : Run P n Q g (.ops all (⟨dst, .indexAddr t x i, ty, pos, af, none⟩ :: rest) :: k) e D M :=
  Run.val _ hd (fun a he w hs => by
    simp only [execOp, Instr.indexAt, Sem.run_bind, he.ev hx, he.ev hi, asIntOf, pure, Sem.run, Result.andThen_ok, hu]
    simp [h0, h1, Sem.run_bind, hS, Sem.run, add_plain, Sem.run_pure, Result.andThen_ok]) h
theorem Run.sliceLo {t el : TypeId} {x lo : Operand} {A : Option Addr} {l c sz : Nat} {kd : IntKind} {i : Nat} (hu : ∀ w, (underlying t).run P w = .ok (.slice el) w) (hS : ∀ w, (sizeOf el).run P w = .ok sz w)
    (hx : e.ev x = some (.slice A l c)) (hi : e.ev lo = some (.int kd i)) (h1 : i ≤ l) (hd : dstOk n dst = true)
    (h : Run P n Q g (.ops all rest :: k) (e.put dst (.slice (if c = i then A else A.map (·.add (i * sz))) (l - i) (c - i))) D M) : Run P n Q g (.ops all (⟨dst, .slice t x (some lo) none none, ty, pos, af, none⟩ :: rest) :: k) e D M :=
  Run.val _ hd (fun a he w hs => by
    simp [execOp, Instr.sliceAt, Instr.slice, Instr.sliceBounds, Instr.sliceBound, Sem.run_bind, he.ev hx, he.ev hi, asIntOf, Sem.run_pure, hu, h1, hS, Result.andThen_ok]) h
theorem Run.sliceHi {t el : TypeId} {x hi : Operand} {A : Option Addr} {l c sz : Nat} {kd : IntKind} {i : Nat} (hu : ∀ w, (underlying t).run P w = .ok (.slice el) w) (hS : ∀ w, (sizeOf el).run P w = .ok sz w)
    (hx : e.ev x = some (.slice A l c)) (hi' : e.ev hi = some (.int kd i)) (h1 : i ≤ c) (hd : dstOk n dst = true)
    (h : Run P n Q g (.ops all rest :: k) (e.put dst (.slice A i c)) D M) : Run P n Q g (.ops all (⟨dst, .slice t x none (some hi) none, ty, pos, af, none⟩ :: rest) :: k) e D M :=
  Run.val _ hd (fun a he w hs => by
    by_cases hc : c = 0
    · subst hc
      have : i = 0 := by omega
      subst this
      simp [execOp, Instr.sliceAt, Instr.slice, Instr.sliceBounds, Instr.sliceBound, Sem.run_bind, he.ev hx, he.ev hi', asIntOf, Sem.run_pure, hu, h1, hS, Result.andThen_ok]
    · have hA : A.map (fun x : Addr => x.add 0) = A := by cases A <;> simp [Addr.add]
      simp [execOp, Instr.sliceAt, Instr.slice, Instr.sliceBounds, Instr.sliceBound, Sem.run_bind, he.ev hx, he.ev hi', asIntOf, Sem.run_pure, hu, h1, hS, Result.andThen_ok, hc, hA]) h
theorem madeZ {zc : List Value} {z : Value} (hzs : z.cells = zc.toArray) (len : Nat) (h0 : len * zc.length ≠ 0) : (Array.range (len * zc.length)).map (z.cells[· % z.cells.size]!) = (reps len zc).toArray := reps_eq len z.cells zc hzs h0
theorem Run.makeSlice {t el : TypeId} {xl xc : Operand} {ti : TypeInfo} {zc : List Value} {z : Value} {len cap : Nat} (hu : ∀ w, (underlying t).run P w = .ok (.slice el) w) (ht : ∀ w, (typeInfo el).run P w = .ok ti w) (hS : ∀ w, (sizeOf el).run P w = .ok zc.length w)
    (hz : ∀ w, (zeroValue el).run P w = .ok z w) (hzs : z.cells = zc.toArray) (hl : e.ev xl = some (.int .i64 len)) (hc : e.ev xc = some (.int .i64 cap)) (h1 : len ≤ cap) (hb : ti.bytes * cap ≤ 281474976710656) (hc63 : cap ≤ 9223372036854775807) (hzl : 0 < zc.length) (hd : dstOk n dst = true)
    (h : ∀ b, D b = none → Run P n Q g (.ops all rest :: k) (e.put dst (.slice (some ⟨b, 0, none⟩) len cap)) D ((b, .cells (reps cap zc).toArray el (0, 0)) :: M)) : Run P n Q g (.ops all (⟨dst, .makeSlice t xl xc, ty, pos, af, none⟩ :: rest) :: k) e D M :=
  Run.new _ hd (fun b => .slice (some ⟨b, 0, none⟩) len cap) (fun a he w hs => by
    have hwl : IntKind.i64.wrap (len : Int) = len := wrap_i64 (by omega) (by omega)
    have hwc : IntKind.i64.wrap (cap : Int) = cap := wrap_i64 (by omega) (by omega)
    have hb' : ¬ ((ti.bytes : Int) * (cap : Int) > 281474976710656) := by
      have : ((ti.bytes * cap : Nat) : Int) ≤ 281474976710656 := by omega
      rw [Int.natCast_mul] at this; omega
    have hcond : ((cap : Int) < 0 || decide ((ti.bytes : Int) * (cap : Int) > 2 ^ 48) || decide ((len : Int) < 0) || decide ((len : Int) > (cap : Int))) = false := by
      have h2 : (2 : Int) ^ 48 = 281474976710656 := by decide
      rw [h2]
      simp only [hb', decide_false, Bool.or_false, Bool.or_eq_false_iff, decide_eq_false_iff_not]
      omega
    have hask : ∀ (x : Nat) (w : World), (askRoom x).run P w = .ok () w := by
      intro x w
      unfold askRoom
      split <;> rfl
    simp only [execOp, Instr.makeSlice, Sem.run_bind, hu, ht, Result.andThen_ok, he.ev hl, he.ev hc, asInt, asIntOf, pure, Sem.run, hwl, hwc]
    rw [if_neg (by rw [Bool.not_eq_true]; simpa [Bool.or_assoc] using hcond)]
    simp only [Sem.run_bind, hask, Result.andThen_ok, hS, Int.toNat_natCast]
    by_cases h0 : cap * zc.length = 0
    · have hc0 : cap = 0 := by rcases Nat.mul_eq_zero.1 h0 with h | h <;> omega
      subst hc0
      have hr0 : Array.range 0 = #[] := rfl
      simp [reps, Sem.run_pure, newRow, newObj, Sem.run_bind, Sem.run, Result.andThen_ok, hr0]
    · rw [if_neg h0]
      simp only [Sem.run_bind, hz, Result.andThen_ok, pure, Sem.run]
      rw [madeZ hzs cap h0]
      simp [newRow, newObj, Sem.run_pure, Sem.run_bind, Sem.run, Result.andThen_ok]) h

/-! ### 4. == and != of what is no number -/
theorem eqGuard_ptr (op : BinOp) (t : TypeId) (x y : Operand) (a b : Option Addr) : eqGuard op t x y (.pointer a) (.pointer b) = (pure () : Sem Unit) := by cases op <;> rfl
theorem eqGuard_sl (op : BinOp) (t : TypeId) (x y : Operand) (a b : Option Addr) (l c l' c' : Nat) : eqGuard op t x y (.slice a l c) (.slice b l' c') = (pure () : Sem Unit) := by cases op <;> rfl
theorem eqGuard_bool (op : BinOp) (t : TypeId) (x y : Operand) (a b : Bool) : eqGuard op t x y (.bool a) (.bool b) = (pure () : Sem Unit) := by cases op <;> rfl
theorem Run.eqPtrNil {t t' el : TypeId} {x y : Operand} {a : Option Addr} (hu : ∀ w, (underlying t).run P w = .ok (.pointer el) w) (hx : e.ev x = some (.pointer a)) (hy : e.ev y = some (.pointer none)) (hd : dstOk n dst = true)
    (h : Run P n Q g (.ops all rest :: k) (e.put dst (.bool a.isNone)) D M) : Run P n Q g (.ops all (⟨dst, .binOp .eql t x y t', ty, pos, af, none⟩ :: rest) :: k) e D M :=
  Run.val _ hd (fun a' he w hs => by
    have hq : ∀ x y, Op.equal t x y = Op.equalIn (9999 + 1) t x y := fun _ _ => rfl
    generalize 9999 = d at hq
    simp only [execOp, he.ev hx, he.ev hy, eqGuard_ptr]
    cases a <;> simp [binOp, hq, Op.equalIn, Sem.run_bind, hu, Sem.run_pure, Result.andThen_ok]) h
theorem Run.nePtrNil {t t' el : TypeId} {x y : Operand} {a : Option Addr} (hu : ∀ w, (underlying t).run P w = .ok (.pointer el) w) (hx : e.ev x = some (.pointer a)) (hy : e.ev y = some (.pointer none)) (hd : dstOk n dst = true)
    (h : Run P n Q g (.ops all rest :: k) (e.put dst (.bool (!a.isNone))) D M) : Run P n Q g (.ops all (⟨dst, .binOp .neq t x y t', ty, pos, af, none⟩ :: rest) :: k) e D M :=
  Run.val _ hd (fun a' he w hs => by
    have hq : ∀ x y, Op.equal t x y = Op.equalIn (9999 + 1) t x y := fun _ _ => rfl
    generalize 9999 = d at hq
    simp only [execOp, he.ev hx, he.ev hy, eqGuard_ptr]
    cases a <;> simp [binOp, hq, Op.equalIn, Sem.run_bind, hu, Sem.run_pure, Result.andThen_ok]) h
theorem Run.eqSlNil {t t' el : TypeId} {x y : Operand} {a : Option Addr} {l c : Nat} (hu : ∀ w, (underlying t).run P w = .ok (.slice el) w) (hx : e.ev x = some (.slice a l c)) (hy : e.ev y = some (.slice none 0 0)) (hd : dstOk n dst = true)
    (h : Run P n Q g (.ops all rest :: k) (e.put dst (.bool a.isNone)) D M) : Run P n Q g (.ops all (⟨dst, .binOp .eql t x y t', ty, pos, af, none⟩ :: rest) :: k) e D M :=
  Run.val _ hd (fun a' he w hs => by
    have hq : ∀ x y, Op.equal t x y = Op.equalIn (9999 + 1) t x y := fun _ _ => rfl
    generalize 9999 = d at hq
    simp only [execOp, he.ev hx, he.ev hy, eqGuard_sl]
    cases a <;> simp [binOp, hq, Op.equalIn, Sem.run_bind, hu, Sem.run_pure, Result.andThen_ok]) h
theorem Run.eqBool {t t' : TypeId} {x y : Operand} {a b : Bool} (hu : ∀ w, (underlying t).run P w = .ok .bool w) (hx : e.ev x = some (.bool a)) (hy : e.ev y = some (.bool b)) (hd : dstOk n dst = true)
    (h : Run P n Q g (.ops all rest :: k) (e.put dst (.bool (a == b))) D M) : Run P n Q g (.ops all (⟨dst, .binOp .eql t x y t', ty, pos, af, none⟩ :: rest) :: k) e D M :=
  Run.val _ hd (fun a' he w hs => by
    have hq : ∀ x y, Op.equal t x y = Op.equalIn (9999 + 1) t x y := fun _ _ => rfl
    generalize 9999 = d at hq
    simp only [execOp, he.ev hx, he.ev hy, eqGuard_bool]
    simp [binOp, hq, Op.equalIn, Sem.run_bind, hu, Sem.run_pure, Result.andThen_ok]) h
theorem Run.neBool {t t' : TypeId} {x y : Operand} {a b : Bool} (hu : ∀ w, (underlying t).run P w = .ok .bool w) (hx : e.ev x = some (.bool a)) (hy : e.ev y = some (.bool b)) (hd : dstOk n dst = true)
    (h : Run P n Q g (.ops all rest :: k) (e.put dst (.bool (!(a == b)))) D M) : Run P n Q g (.ops all (⟨dst, .binOp .neq t x y t', ty, pos, af, none⟩ :: rest) :: k) e D M :=
  Run.val _ hd (fun a' he w hs => by
    have hq : ∀ x y, Op.equal t x y = Op.equalIn (9999 + 1) t x y := fun _ _ => rfl
    generalize 9999 = d at hq
    simp only [execOp, he.ev hx, he.ev hy, eqGuard_bool]
    simp [binOp, hq, Op.equalIn, Sem.run_bind, hu, Sem.run_pure, Result.andThen_ok]) h
/-- == of structs of one type: how it comes out -/
def EqAt (P : Program) (t : TypeId) (xs ys : List Value) (r : Bool) : Prop :=
  ∀ w, (Op.equal t (.agg xs.toArray) (.agg ys.toArray)).run P w = .ok r w
theorem eqGuard_agg {t : TypeId} (h : P.eqGuardType P.depth t = false) (op : BinOp) (x y : Operand) (a b : Array Value) (w : World) : (eqGuard op t x y (.agg a) (.agg b)).run P w = .ok () w := by
  cases op <;> simp [eqGuard, Sem.run_bind, program, Sem.run, h, pure, bind, Sem.bind, Result.andThen]
theorem Run.eqAgg {t t' : TypeId} {x y : Operand} {xs ys : List Value} {r : Bool} (hg : P.eqGuardType P.depth t = false) (hx : e.ev x = some (.agg xs.toArray)) (hy : e.ev y = some (.agg ys.toArray)) (hr : EqAt P t xs ys r) (hd : dstOk n dst = true)
    (h : Run P n Q g (.ops all rest :: k) (e.put dst (.bool r)) D M) : Run P n Q g (.ops all (⟨dst, .binOp .eql t x y t', ty, pos, af, none⟩ :: rest) :: k) e D M :=
  Run.val _ hd (fun a' he w hs => by
    simp only [execOp, he.ev hx, he.ev hy, Sem.run_bind, eqGuard_agg hg, Result.andThen_ok]
    simp [binOp, Sem.run_bind, hr w, Sem.run_pure, Result.andThen_ok]) h
theorem Run.neAgg {t t' : TypeId} {x y : Operand} {xs ys : List Value} {r : Bool} (hg : P.eqGuardType P.depth t = false) (hx : e.ev x = some (.agg xs.toArray)) (hy : e.ev y = some (.agg ys.toArray)) (hr : EqAt P t xs ys r) (hd : dstOk n dst = true)
    (h : Run P n Q g (.ops all rest :: k) (e.put dst (.bool !r)) D M) : Run P n Q g (.ops all (⟨dst, .binOp .neq t x y t', ty, pos, af, none⟩ :: rest) :: k) e D M :=
  Run.val _ hd (fun a' he w hs => by
    simp only [execOp, he.ev hx, he.ev hy, Sem.run_bind, eqGuard_agg hg, Result.andThen_ok]
    simp [binOp, Sem.run_bind, hr w, Sem.run_pure, Result.andThen_ok]) h
end
end Go.Proofs.YtgdpjpmjcpieiaaGreat

/- The engine's rule for a statement whose order is open: each operation of its first part is shown by itself, from what it looks at alone; then any order serves. No condition. -/
namespace Go.Proofs.YtgdpjpmjcpieiaaGreat
open Go
set_option linter.unusedVariables false
set_option linter.unusedSimpArgs false

abbrev Fct := Value → Dict → Prop
def MonoF (R : Dict → Dict → Prop) (F : Fct) : Prop := ∀ v D D', R D D' → F v D → F v D'
theorem MonoF.eq {R : Dict → Dict → Prop} (V : Value) : MonoF R (fun v _ => V = v) := fun _ _ _ _ h => h
theorem MonoF.imp {R : Dict → Dict → Prop} (p : Prop) (V : Value) : MonoF R (fun v _ => p → V = v) := fun _ _ _ _ h => h
theorem MonoF.pure {R : Dict → Dict → Prop} (p : Value → Prop) : MonoF R (fun v _ => p v) := fun _ _ _ _ h => h
theorem MonoF.same (F : Fct) : MonoF Eq F := fun _ _ _ e h => e ▸ h
/-- how what never changes may grow: not at all, or by more -/
structure Grow (R : Dict → Dict → Prop) : Prop where
  refl : ∀ D, R D D
  trans : ∀ {D D' D''}, R D D' → R D' D'' → R D D''
theorem Grow.eq : Grow Eq := ⟨fun _ => rfl, fun h h' => h.trans h'⟩
theorem Grow.le : Grow Le := ⟨fun _ => Le.rfl', fun h h' => h.trans h'⟩
def Wit : List (Nat × Fct) → Dict → (Env → Prop) → Prop
  | [], _, K => K []
  | (d, F) :: r, D, K => ∀ v, F v D → Wit r D (fun e => K ((d, v) :: e))
theorem Wit.use : ∀ {L : List (Nat × Fct)} {D : Dict} {K : Env → Prop} {a : Act}, Wit L D K → (∀ p ∈ L, ∃ v, a.tmps[p.1]? = some v ∧ p.2 v D) → ∃ e, K e ∧ (∀ t v, (t, v) ∈ e → a.tmps[t]? = some v)
  | [], _, _, _, h, _ => ⟨[], h, fun _ _ h => by cases h⟩
  | (d, F) :: r, D, K, a, h, ha => by
    obtain ⟨v, h1, h2⟩ := ha (d, F) (List.mem_cons_self ..)
    obtain ⟨e, h3, h4⟩ := Wit.use (h v h2) (fun p hp => ha p (List.mem_cons_of_mem _ hp))
    refine ⟨_, h3, fun t u hu => ?_⟩
    rcases List.mem_cons.1 hu with hu | hu
    · injection hu with e1 e2; subst e1; subst e2; exact h1
    · exact h4 t u hu
theorem get_mem : ∀ {e : Env} {t : Nat} {v : Value}, e.get t = some v → (t, v) ∈ e
  | (s, u) :: r, t, v, h => by
    unfold Env.get at h
    split at h
    · rename_i hb; injection h with h; subst h; rw [Nat.eq_of_beq_eq_true hb]; exact List.mem_cons_self ..
    · exact List.mem_cons_of_mem _ (get_mem h)
theorem get_append {e e' : Env} {t : Nat} {v : Value} : (e ++ e').get t = some v → e.get t = some v ∨ e'.get t = some v := by
  induction e with
  | nil => exact .inr
  | cons p r ih =>
    obtain ⟨s, u⟩ := p
    simp only [List.cons_append, Env.get]
    cases Nat.beq s t
    · exact ih
    · exact .inl

/-! ### what the text says of its operations -/
def dirE (l : List Oper) (i j : Nat) : Bool := match l[i]? with
  | some o => o.after.toList.any fun e => Region.binds .any e && Nat.beq e.on j
  | none => false
def nearE (l : List Oper) (i j : Nat) : Bool := (List.range (i - j)).any fun t => dirE l (i - t) j
def dstE (l : List Oper) (i : Nat) : Option Nat := match l[i]? with
  | some o => o.dst
  | none => none
def looksE (all : List Oper) (o : Oper) : List Nat := o.looksAt all.toArray
def isDefer : Op → Bool
  | .defer _ => true
  | _ => false
/-- the operations of the first part that o looks at -/
def depsE (l : List Oper) (m : Nat) (o : Oper) : List Nat := (List.range m).filter fun j => match dstE l j with
  | some d => (looksE l o).any (Nat.beq d)
  | none => false
def drawOk (l : List Oper) (m n : Nat) (base : List Nat) : Bool :=
  Nat.ble m l.length &&
  ((List.range m).all fun i => match l[i]? with
    | none => false
    | some o => (match o.dst with
        | none => false
        | some d => Nat.blt d n && !(base.any (Nat.beq d)) && (List.range i).all fun j => match dstE l j with
            | some d' => !(Nat.beq d d')
            | none => false) &&
      (depsE l m o).all (fun j => Nat.blt j i && dirE l i j) && !isDefer o.op) &&
  ((List.range (l.length - m)).all fun s => (List.range (m + s)).all fun j => nearE l (m + s) j) &&
  ((List.range l.length).all fun i => match l[i]? with
    | none => false
    | some o => o.after.toList.all fun e => !(Region.binds .any e) || Nat.blt e.on i)

section
variable {R : Dict → Dict → Prop} {P : Program} {n : Nat} {Q : Exit → Act → World → Prop} {g : Gl} {k : List It} {e : Env} {D : Dict} {M : MList}
def LocQ (R : Dict → Dict → Prop) (g : Gl) (D : Dict) (M : MList) (d : Nat) (F : Fct) : Exit → Act → World → Prop := fun ex a w => ex = .normal ∧ a.defers = [] ∧ ∃ v D', a.tmps[d]? = some v ∧ R D D' ∧ St g w D' M ∧ F v D'
/-- one operation by itself -/
def LocS (R : Dict → Dict → Prop) (P : Program) (n : Nat) (g : Gl) (l : List Oper) (m : Nat) (base : Env) (D : Dict) (M : MList) (i : Nat) (Fs : List Fct) (F : Fct) : Prop :=
  match l[i]? with
  | none => True
  | some o => ∀ D', R D D' → ∃ L : List (Nat × Fct), (∀ p ∈ L, p ∈ (depsE l m o).map fun j => ((dstE l j).getD 0, Fs.getD j (fun _ _ => False))) ∧ Wit L D' fun e => Run P n (LocQ R g D' M (o.dst.getD 0) F) g [.ops l.toArray [o]] (e ++ base) D' M
theorem Run.loc {d : Nat} {F : Fct} {D' : Dict} {v : Value} (hv : e.get d = some v) (hD : R D D') (hF : F v D') : Run P n (LocQ R g D M d F) g [] e D' M :=
  fun a w he hd hs => ⟨rfl, hd, v, D', he.at_ d v hv, hD, hs, hF⟩
def Tele (R : Dict → Dict → Prop) (P : Program) (n : Nat) (g : Gl) (l : List Oper) (m : Nat) (base : Env) (D : Dict) (M : MList) (Z : List Fct → Prop) : Nat → List Fct → Prop
  | 0, acc => Z acc
  | r + 1, acc => ∃ F : Fct, MonoF R F ∧ LocS R P n g l m base D M acc.length acc F ∧ Tele R P n g l m base D M Z r (acc ++ [F])
theorem Tele.all {l : List Oper} {m : Nat} {base : Env} {Z : List Fct → Prop} : ∀ (r : Nat) (acc : List Fct), Tele R P n g l m base D M Z r acc → ∃ Fs, Z (acc ++ Fs) ∧ Fs.length = r ∧
    ∀ i, i < r → ∃ F, Fs[i]? = some F ∧ MonoF R F ∧ LocS R P n g l m base D M (acc.length + i) (acc ++ Fs.take i) F
  | 0, acc, h => ⟨[], by rw [List.append_nil]; exact h, rfl, fun i hi => by omega⟩
  | r + 1, acc, h => by
    obtain ⟨F, h1, h2, h3⟩ := h
    obtain ⟨Fs, h4, h5, h6⟩ := Tele.all r _ h3
    refine ⟨F :: Fs, by simpa using h4, by simp [h5], fun i hi => ?_⟩
    cases i with
    | zero => exact ⟨F, rfl, h1, by simpa using h2⟩
    | succ i =>
      obtain ⟨F', e1, e2, e3⟩ := h6 i (by omega)
      refine ⟨F', by simpa using e1, e2, ?_⟩
      have : acc.length + (i + 1) = (acc ++ [F]).length + i := by simp; omega
      rw [this]
      simpa using e3
theorem Oper.wp_monoP {o : Oper} {a : Act} {w : World} {K K' : Act → World → Prop} {Q Q' : Exit → Act → World → Prop} (h : ∀ a w, K a w → K' a w) (hQ : ∀ e a w, e ≠ .normal → Q e a w → Q' e a w)
    (hh : o.wp P a w K Q) : o.wp P a w K' Q' := by
  unfold Oper.wp at *
  generalize (execOp a.eval o).run P w = r at *
  cases r with
  | ok n w' =>
    cases n <;> simp only [Oper.upon] at hh ⊢ <;>
      first
        | exact h _ _ hh
        | exact Calls.mono hh (fun e w'' he => by cases e <;> first | exact h _ _ he | exact hQ _ _ _ (by intro q; cases q) he | exact (let ⟨x, y, z⟩ := he; ⟨x, y, hQ _ _ _ (by intro q; cases q) z⟩))
        | exact Rows.mono hh (fun _ _ he => h _ _ he)
  | halt x w' => cases x <;> simp only [Oper.upon] at hh ⊢ <;> first | exact hQ _ _ _ (by intro q; cases q) hh | exact hh
theorem Oper.wp_put {o : Oper} {a : Act} {w : World} {K : Act → World → Prop} (h : o.wp P a w K Q) : o.wp P a w (fun a' w' => K a' w' ∧ ∃ v, a'.tmps = (a.put o.dst v).tmps) Q := by
  have hd : ∀ (d : Deferred), ({ a with defers := d :: a.defers } : Act).put o.dst undef = { a.put o.dst undef with defers := d :: a.defers } := fun d => by cases o.dst <;> rfl
  unfold Oper.wp at *
  generalize (execOp a.eval o).run P w = r at *
  cases r with
  | ok nx w' =>
    cases nx <;> simp only [Oper.upon] at h ⊢ <;>
      first
        | exact ⟨h, _, rfl⟩
        | exact ⟨h, undef, by rw [hd]⟩
        | exact Calls.mono h (fun e w'' he => by cases e <;> first | exact ⟨he, _, rfl⟩ | exact he)
        | exact Rows.mono h (fun _ _ he => ⟨he, _, rfl⟩)
  | halt x w' => cases x <;> simp only [Oper.upon] at h ⊢ <;> exact h
/-- the steps of the first part, and the second part behind it -/
structure Inv (R : Dict → Dict → Prop) (n : Nat) (g : Gl) (l : List Oper) (m : Nat) (base : Env) (D : Dict) (M : MList) (Fs : List Fct) (listed : Array Bool) (a : Act) (w : World) : Prop where
  defs : a.defers = []
  env : EnvOk n base a
  len : listed.size = l.length
  closed : ∀ i, listed.getD i false = true → ∀ j, dirE l i j = true → listed.getD j false = true
  ex : ∃ D', R D D' ∧ St g w D' M ∧ ∀ i, i < m → listed.getD i false = true → ∃ d v F, dstE l i = some d ∧ Fs[i]? = some F ∧ a.tmps[d]? = some v ∧ F v D'
theorem near_listed {l : List Oper} {listed : Array Bool} (hc : ∀ i, listed.getD i false = true → ∀ j, dirE l i j = true → listed.getD j false = true) {i : Nat} (hn : ∀ j, j < i → nearE l i j = true)
    (hi : ∀ j, dirE l i j = true → listed.getD j false = true) : ∀ (d j : Nat), i - j = d → j < i → listed.getD j false = true := by
  intro d
  induction d using Nat.strongRecOn with
  | _ d ih =>
    intro j hd hj
    have := hn j hj
    simp only [nearE, List.any_eq_true, List.mem_range] at this
    obtain ⟨t, ht, he⟩ := this
    rcases Nat.eq_zero_or_pos t with h0 | h0
    · subst h0; exact hi j he
    · exact hc _ (ih (i - (i - t)) (by omega) (i - t) rfl (by omega)) j he
theorem ready_dir {l : List Oper} {listed : Array Bool} {i : Nat} (h : i ∈ Region.ready .any l.toArray listed) : ∀ j, dirE l i j = true → listed.getD j false = true := by
  obtain ⟨h0, o, ho, hall⟩ := mem_ready.1 h
  intro j hj
  have ho' : l[i]? = some o := by simpa using ho
  simp only [dirE, ho', List.any_eq_true, Bool.and_eq_true] at hj
  obtain ⟨e, he, hb, hj⟩ := hj
  rw [← Nat.eq_of_beq_eq_true hj]
  exact hall e (by simpa using he) hb
theorem getD_false_of {listed : Array Bool} {i : Nat} (h : listed.getD i true = false) : listed.getD i false = false := by
  rcases Nat.lt_or_ge i listed.size with h1 | h1
  · simp [h1] at h ⊢; exact h
  · simp [Array.getElem?_eq_none h1]
theorem getD_set {listed : Array Bool} {i j : Nat} (hi : i < listed.size) : (listed.setIfInBounds i true).getD j false = true ↔ j = i ∨ listed.getD j false = true := by
  by_cases h : i = j
  · subst h; simp [hi]
  · rw [getD_set_ne false h]
    exact ⟨.inr, fun hh => hh.resolve_left (fun e => h e.symm)⟩
/-- nothing is ready: all is done -/
theorem none_ready {l : List Oper} {listed : Array Bool} (hl : listed.size = l.length) (hlt : ∀ i j, dirE l i j = true → j < i) (hr : Region.ready .any l.toArray listed = []) : ∀ i, i < l.length → listed.getD i false = true := by
  intro i
  induction i using Nat.strongRecOn with
  | _ i ih =>
    intro hi
    cases hq : listed.getD i false with
    | true => rfl
    | false =>
      exfalso
      have hm : i ∈ Region.ready .any l.toArray listed := by
        refine mem_ready.2 ⟨?_, l[i], by simp [hi], fun e he hb => ?_⟩
        · have : i < listed.size := by omega
          simp [this] at hq ⊢; exact hq
        · have hd : dirE l i e.on = true := by
            simp only [dirE, List.getElem?_eq_getElem hi, List.any_eq_true, Bool.and_eq_true]
            exact ⟨e, by simpa using he, hb, Nat.beq_refl _⟩
          have := hlt i e.on hd
          exact ih e.on this (by omega)
      rw [hr] at hm; cases hm
/-- behind the first part the order is the text's -/
theorem tail_any {l : List Oper} {m : Nat} (hlt : ∀ i j, dirE l i j = true → j < i) (hs : ∀ s, m ≤ s → s < l.length → ∀ j, j < s → nearE l s j = true) :
    ∀ (r s : Nat) (listed : Array Bool) (a : Act) (w : World), s + r = l.length → m ≤ s → listed.size = l.length → (∀ j, listed.getD j false = true ↔ j < s) → wpList P l.toArray Q (l.drop s) a w → wpAny P .any l.toArray Q r listed a w
  | 0, s, listed, a, w, h1, h2, h3, h4, h => by
    have hn : Region.ready .any l.toArray listed = [] := by
      cases hr : Region.ready .any l.toArray listed with
      | nil => rfl
      | cons i r =>
        exfalso
        have hi : i ∈ Region.ready .any l.toArray listed := by rw [hr]; exact List.mem_cons_self ..
        obtain ⟨h5, o, ho, _⟩ := mem_ready.1 hi
        have hlt' : i < l.length := by have := (Array.getElem?_eq_some_iff.1 ho).1; simpa using this
        have := getD_false_of h5
        rw [(h4 i).2 (by omega)] at this; cases this
    rw [List.drop_eq_nil_of_le (by omega)] at h
    exact ⟨hn, h⟩
  | r + 1, s, listed, a, w, h1, h2, h3, h4, h => by
    have hsl : s < l.length := by omega
    have hready : ∀ i, i ∈ Region.ready .any l.toArray listed → i = s := by
      intro i hi
      obtain ⟨h5, o, ho, _⟩ := mem_ready.1 hi
      have hlt' : i < l.length := by have := (Array.getElem?_eq_some_iff.1 ho).1; simpa using this
      have h6 := getD_false_of h5
      have h7 : s ≤ i := by
        rcases Nat.lt_or_ge i s with h | h
        · rw [(h4 i).2 h] at h6; cases h6
        · exact h
      rcases Nat.lt_or_ge s i with h8 | h8
      · have := near_listed (l := l) (listed := listed) (fun i hi j hj => (h4 j).2 (by have := hlt i j hj; have := (h4 i).1 hi; omega)) (i := i) (fun j hj => hs i (by omega) hlt' j hj) (ready_dir hi) _ s rfl h8
        have := (h4 s).1 this
        omega
      · omega
    refine ⟨fun h0 => ?_, fun i hi => ?_⟩
    · have := none_ready h3 hlt h0 s hsl
      have := (h4 s).1 this
      omega
    · have := hready i hi
      subst this
      rw [List.drop_eq_getElem_cons hsl] at h
      have hg : l.toArray[i]? = some l[i] := by simp [hsl]
      have ih := tail_any hlt hs r (i + 1) (listed.setIfInBounds i true)
      unfold wpOp
      rw [hg]
      simp only
      unfold wpList at h
      have hset : ∀ j, (listed.setIfInBounds i true).getD j false = true ↔ j < i + 1 := fun j => by rw [getD_set (by omega), h4 j]; omega
      split
      · rename_i hw
        rw [if_pos hw] at h
        exact h.imp (Oper.wp_mono fun a w h => ih a w (by omega) (by omega) (by simp [h3]) hset h) id
      · rename_i hw
        rw [if_neg hw] at h
        exact ih _ _ (by omega) (by omega) (by simp [h3]) hset h
def todo (l : List Oper) (listed : Array Bool) : List Nat := (List.range l.length).filter fun i => !listed.getD i false
theorem todo_set {l : List Oper} {listed : Array Bool} {i : Nat} (hi : i < listed.size) (hl : i < l.length) (hu : listed.getD i false = false) : (todo l (listed.setIfInBounds i true)).length + 1 = (todo l listed).length := by
  have hm : i ∈ todo l listed := by simp only [todo, List.mem_filter, List.mem_range, hu]; exact ⟨hl, rfl⟩
  have hnd : (todo l listed).Nodup := List.nodup_range.sublist List.filter_sublist
  have he : todo l (listed.setIfInBounds i true) = (todo l listed).erase i := by
    rw [hnd.erase_eq_filter]
    simp only [todo, List.filter_filter]
    refine List.filter_congr fun j _ => ?_
    by_cases hj : i = j
    · subst hj; simp [hi]
    · rw [getD_set_ne false hj]
      have : (j != i) = true := by simp; exact fun e => hj e.symm
      rw [this]; simp
  rw [he, List.length_erase_of_mem hm]
  have := List.length_pos_of_mem hm
  omega
theorem todo_first {l : List Oper} {listed : Array Bool} {m : Nat} (hm : m ≤ l.length) (h : ∀ j, listed.getD j false = true ↔ j < m) : (todo l listed).length = l.length - m := by
  have : todo l listed = (List.range l.length).filter fun i => decide (m ≤ i) := by
    refine List.filter_congr fun j _ => ?_
    by_cases hj : j < m
    · rw [(h j).2 hj]; simp; omega
    · have : listed.getD j false = false := by
        cases hq : listed.getD j false with
        | false => rfl
        | true => exact absurd ((h j).1 hq) hj
      rw [this]; simp; omega
  rw [this]
  clear this h
  obtain ⟨d, hd⟩ : ∃ d, l.length = m + d := ⟨l.length - m, by omega⟩
  rw [hd, List.range_add, List.filter_append]
  have h1 : (List.range m).filter (fun i => decide (m ≤ i)) = [] := by
    rw [List.filter_eq_nil_iff]; intro a ha; have := List.mem_range.1 ha; simp; omega
  have h2 : ((List.range d).map (m + ·)).filter (fun i => decide (m ≤ i)) = (List.range d).map (m + ·) := by
    rw [List.filter_eq_self]; intro a ha; obtain ⟨x, _, rfl⟩ := List.mem_map.1 ha; simp
  rw [h1, h2]; simp
theorem first_any {l : List Oper} {m : Nat} {base : Env} {Fs : List Fct} (hm : m ≤ l.length) (hlt : ∀ i j, dirE l i j = true → j < i) (hs : ∀ s, m ≤ s → s < l.length → ∀ j, j < s → nearE l s j = true)
    (hstep : ∀ i, i < m → ∀ listed a w, Inv R n g l m base D M Fs listed a w → i ∈ Region.ready .any l.toArray listed → wpOp P l.toArray Q i (fun a' w' => Inv R n g l m base D M Fs (listed.setIfInBounds i true) a' w') a w)
    (hend : ∀ listed a w, Inv R n g l m base D M Fs listed a w → (∀ i, i < m → listed.getD i false = true) → wpList P l.toArray Q (l.drop m) a w) :
    ∀ (r : Nat) (listed : Array Bool) (a : Act) (w : World), (todo l listed).length = r → (∀ i, m ≤ i → listed.getD i false = false) → Inv R n g l m base D M Fs listed a w → wpAny P .any l.toArray Q r listed a w := by
  intro r
  induction r with
  | zero =>
    intro listed a w hr hno hi
    have hall : ∀ i, i < m → listed.getD i false = true := by
      intro i him
      cases hq : listed.getD i false with
      | true => rfl
      | false =>
        exfalso
        have : i ∈ todo l listed := by simp only [todo, List.mem_filter, List.mem_range, hq]; exact ⟨by omega, rfl⟩
        rw [List.eq_nil_of_length_eq_zero hr] at this; cases this
    have hiff : ∀ j, listed.getD j false = true ↔ j < m := by
      refine fun j => ⟨fun h => ?_, hall j⟩
      rcases Nat.lt_or_ge j m with h1 | h1
      · exact h1
      · rw [hno j h1] at h; cases h
    have hc := todo_first hm hiff
    exact tail_any hlt hs 0 m listed a w (by omega) (Nat.le_refl _) hi.len hiff (hend listed a w hi hall)
  | succ r ih =>
    intro listed a w hr hno hi
    by_cases hall : ∀ i, i < m → listed.getD i false = true
    · have hiff : ∀ j, listed.getD j false = true ↔ j < m := by
        refine fun j => ⟨fun h => ?_, hall j⟩
        rcases Nat.lt_or_ge j m with h1 | h1
        · exact h1
        · rw [hno j h1] at h; cases h
      have hc := todo_first hm hiff
      exact tail_any hlt hs (r + 1) m listed a w (by omega) (Nat.le_refl _) hi.len hiff (hend listed a w hi hall)
    · have hready : ∀ i, i ∈ Region.ready .any l.toArray listed → i < m ∧ listed.getD i false = false ∧ i < l.length := by
        intro i hir
        obtain ⟨h5, o, ho, _⟩ := mem_ready.1 hir
        have hlt' : i < l.length := by have := (Array.getElem?_eq_some_iff.1 ho).1; simpa using this
        refine ⟨?_, getD_false_of h5, hlt'⟩
        rcases Nat.lt_or_ge i m with h | h
        · exact h
        · exfalso
          exact hall fun j hj => near_listed hi.closed (fun j hj => hs i h hlt' j hj) (ready_dir hir) _ j rfl (by omega)
      refine ⟨fun h0 => ?_, fun i hir => ?_⟩
      · exfalso
        exact hall fun i him => none_ready hi.len hlt h0 i (by omega)
      · obtain ⟨h1, h2, h3⟩ := hready i hir
        refine wpOp_mono (fun a' w' hi' => ih _ a' w' ?_ ?_ hi') (hstep i h1 listed a w hi hir)
        · have := todo_set (l := l) (listed := listed) (i := i) (by rw [hi.len]; exact h3) h3 h2
          omega
        · intro j hj
          rw [getD_set_ne false (by omega)]
          exact hno j hj
/-- **A statement whose order is open.** Its first m operations one by one; then what stands behind, in the text's order. -/
theorem Run.draw {id : Nat} {l : List Oper} (hG : Grow R) (m : Nat) (base : Env) (hmix : P.follows .mixedOrders = true) (hok : drawOk l m n (base.map Prod.fst) = true) (hbase : e.Has base)
    (h : Tele R P n g l m base D M (fun Fs => ∀ D', R D D' → ∃ L : List (Nat × Fct), (∀ p ∈ L, p ∈ (List.range m).map fun j => ((dstE l j).getD 0, Fs.getD j (fun _ _ => False))) ∧ Wit L D' fun e' => Run P n Q g (.ops l.toArray (l.drop m) :: k) (e' ++ base) D' M) m []) :
    Run P n Q g (.code (.region id l.toArray true) :: k) e D M := by
  intro a w he hd hst
  show (Code.region id l.toArray true).wp P (itp P Q k) a w
  simp only [drawOk, Bool.and_eq_true, List.all_eq_true, List.mem_range] at hok
  obtain ⟨⟨⟨hml, hA⟩, hB⟩, hC⟩ := hok
  have hml' : m ≤ l.length := Nat.le_of_ble_eq_true hml
  have hlt : ∀ i j, dirE l i j = true → j < i := by
    intro i j hij
    unfold dirE at hij
    split at hij
    · rename_i o ho
      simp only [List.any_eq_true, Bool.and_eq_true] at hij
      obtain ⟨ed, hed, hb, hj⟩ := hij
      have hil : i < l.length := by
        rcases Nat.lt_or_ge i l.length with h | h
        · exact h
        · rw [List.getElem?_eq_none h] at ho; cases ho
      have := hC i hil
      rw [ho] at this
      simp only [List.all_eq_true] at this
      have := this ed hed
      rw [hb] at this
      simp [Nat.blt_eq] at this
      rw [← Nat.eq_of_beq_eq_true hj]; exact this
    · cases hij
  have hs : ∀ s, m ≤ s → s < l.length → ∀ j, j < s → nearE l s j = true := by
    intro s h1 h2 j h3
    have := hB (s - m) (by omega) j (by omega)
    rwa [show m + (s - m) = s by omega] at this
  obtain ⟨Fs, hZ, hFl, hF⟩ := Tele.all m [] h
  simp only [List.nil_append] at hZ
  have hop : ∀ i, i < m → ∃ o d, l[i]? = some o ∧ o.dst = some d ∧ d < n ∧ (∀ q ∈ base, q.1 ≠ d) ∧ (∀ j, j < i → ∀ d', dstE l j = some d' → d' ≠ d) ∧ (∀ j ∈ depsE l m o, j < i ∧ dirE l i j = true) := by
    intro i him
    have h1 := hA i him
    cases ho : l[i]? with
    | none => rw [ho] at h1; cases h1
    | some o =>
      rw [ho] at h1
      simp only [Bool.and_eq_true] at h1
      obtain ⟨⟨h2, h3⟩, _⟩ := h1
      cases hdst : o.dst with
      | none => rw [hdst] at h2; cases h2
      | some d =>
        rw [hdst] at h2
        simp only [Bool.and_eq_true, Nat.blt_eq, Bool.not_eq_true', List.all_eq_true, List.mem_range] at h2
        obtain ⟨⟨h4, h5⟩, h6⟩ := h2
        refine ⟨o, d, rfl, hdst, h4, ?_, ?_, ?_⟩
        · intro q hq he
          have : (base.map Prod.fst).any (Nat.beq d) = true := List.any_eq_true.2 ⟨q.1, List.mem_map.2 ⟨q, hq, rfl⟩, by rw [he]; exact Nat.beq_refl d⟩
          rw [this] at h5; cases h5
        · intro j hj d' hd' he
          have := h6 j hj
          rw [hd'] at this
          subst he
          simp at this
        · intro j hj
          have := List.all_eq_true.1 h3 j hj
          simpa [Nat.blt_eq] using this
  refine wp_region_any hmix ?_
  have htodo : (todo l (Array.replicate l.toArray.size false)).length = l.toArray.size := by
    have : todo l (Array.replicate l.toArray.size false) = List.range l.length := by
      rw [todo, List.filter_eq_self]
      intro j _
      by_cases hj : j < l.length <;> simp [Array.getElem?_replicate, hj]
    rw [this]; simp
  have hfl : ∀ j, (Array.replicate l.toArray.size false).getD j false = false := by
    intro j
    by_cases hj : j < l.length <;> simp [Array.getElem?_replicate, hj]
  refine first_any (D := D) (M := M) (n := n) (g := g) (m := m) (base := base) (Fs := Fs) hml' hlt hs ?_ ?_ l.toArray.size _ a _ htodo (fun i _ => hfl i) ⟨hd, he.has hbase, by simp, fun i hi => (by rw [hfl i] at hi; cases hi), D, hG.refl D, hst.drew _ (Nat.le_succ _), fun i _ hi => (by rw [hfl i] at hi; cases hi)⟩
  · intro i him listed a w hi hr
    obtain ⟨o, d, ho, hdst, hdn, hnb, hnd, hdep⟩ := hop i him
    obtain ⟨F, hF1, hF2, hF3⟩ := hF i him
    simp only [List.length_nil, Nat.zero_add, List.nil_append] at hF3
    obtain ⟨D', hD', hst', hex⟩ := hi.ex
    unfold LocS at hF3
    rw [ho] at hF3
    simp only at hF3
    have hdirs := ready_dir hr
    have hil : i < l.length := by
      rcases Nat.lt_or_ge i l.length with h | h
      · exact h
      · rw [List.getElem?_eq_none h] at ho; cases ho
    obtain ⟨L0, hL0, hW0⟩ := hF3 D' hD'
    obtain ⟨e', hrun, he'⟩ := hW0.use (a := a) (by
      intro p hp
      obtain ⟨j, hj, rfl⟩ := List.mem_map.1 (hL0 p hp)
      have hjm : j < m := by
        have := (List.mem_filter.1 hj).1
        exact List.mem_range.1 this
      obtain ⟨hji, hje⟩ := hdep j hj
      obtain ⟨d', v, F', h1, h2, h3, h4⟩ := hex j hjm (hdirs j hje)
      refine ⟨v, by rw [h1]; exact h3, ?_⟩
      have : (Fs.take i).getD j (fun _ _ => False) = F' := by
        rw [List.getD_eq_getElem?_getD, List.getElem?_take, if_pos hji, h2]; rfl
      show (Fs.take i).getD j (fun _ _ => False) v D'
      rw [this]; exact h4)
    have hrun' := hrun a w ⟨hi.env.size, fun t v ht => by
      rcases get_append ht with h | h
      · exact he' t v (get_mem h)
      · exact hi.env.at_ t v h⟩ hi.defs hst'
    change wpList P l.toArray (LocQ R g D' M (o.dst.getD 0) F) [o] a w at hrun'
    have hinv : ∀ a' w', LocQ R g D' M (o.dst.getD 0) F .normal a' w' → (∃ v, a'.tmps = (a.put o.dst v).tmps) → Inv R n g l m base D M Fs (listed.setIfInBounds i true) a' w' := by
      rintro a' w' ⟨_, hdef', v, D'', hv, hD'', hst'', hFv⟩ ⟨u, hu⟩
      rw [hdst] at hv hu
      have htm : a'.tmps = a.tmps.setIfInBounds d u := hu
      have hsz : i < listed.size := by rw [hi.len]; exact hil
      refine ⟨hdef', ⟨by rw [htm]; simpa using hi.env.size, fun t x ht => ?_⟩, by simpa using hi.len, ?_, D'', hG.trans hD' hD'', hst'', ?_⟩
      · rw [htm, Array.getElem?_setIfInBounds_ne (fun e => hnb _ (get_mem ht) e.symm)]
        exact hi.env.at_ t x ht
      · intro c hc j hj
        rw [getD_set hsz] at hc ⊢
        rcases hc with rfl | hc
        · exact .inr (hdirs j hj)
        · exact .inr (hi.closed c hc j hj)
      · intro c hcm hc
        rw [getD_set hsz] at hc
        by_cases hci : c = i
        · subst hci
          refine ⟨d, v, F, by simp [dstE, ho, hdst], hF1, hv, hFv⟩
        · obtain ⟨d', v', F', h1, h2, h3, h4⟩ := hex c hcm (hc.resolve_left hci)
          refine ⟨d', v', F', h1, h2, ?_, ?_⟩
          · have hne : d ≠ d' := by
              rcases Nat.lt_or_ge c i with h | h
              · exact fun e => hnd c h d' h1 e.symm
              · obtain ⟨o', d2, ho', hd2, _, _, hnd', _⟩ := hop c hcm
                have : dstE l c = some d2 := by simp [dstE, ho', hd2]
                rw [this] at h1
                injection h1 with h1
                subst h1
                exact hnd' i (by omega) d (by simp [dstE, ho, hdst])
            rw [htm, Array.getElem?_setIfInBounds_ne hne]; exact h3
          · obtain ⟨F2, g1, g2, _⟩ := hF c hcm
            rw [g1] at h2
            injection h2 with h2
            subst h2
            exact g2 _ _ _ hD'' h4
    unfold wpOp
    have hg : l.toArray[i]? = some o := by simpa using ho
    rw [hg]
    simp only
    unfold wpList at hrun'
    split
    · rename_i hw
      rw [if_pos hw] at hrun'
      rcases hrun' with h1 | ⟨_, x, y, z, _⟩
      · refine .inl ?_
        have h2 : o.wp P a w (fun a' w' => LocQ R g D' M (o.dst.getD 0) F .normal a' w') (itp P Q k) := Oper.wp_monoP (fun a w h => h) (fun ex a w hne h => (hne h.1).elim) h1
        exact Oper.wp_mono (fun a' w' ⟨h3, h4⟩ => hinv a' w' h3 h4) (Oper.wp_put h2)
      · cases z
    · rename_i hw
      rw [if_neg hw] at hrun'
      exact hinv _ _ hrun' ⟨undef, rfl⟩
  · intro listed a w hi hall
    obtain ⟨D', hD', hst', hex⟩ := hi.ex
    obtain ⟨L0, hL0, hW0⟩ := hZ D' hD'
    obtain ⟨e', hrun, he'⟩ := hW0.use (a := a) (by
      intro p hp
      obtain ⟨j, hj, rfl⟩ := List.mem_map.1 (hL0 p hp)
      have hjm := List.mem_range.1 hj
      obtain ⟨d', v, F', h1, h2, h3, h4⟩ := hex j hjm (hall j hjm)
      refine ⟨v, by rw [h1]; exact h3, ?_⟩
      have : Fs.getD j (fun _ _ => False) = F' := by rw [List.getD_eq_getElem?_getD, h2]; rfl
      show Fs.getD j (fun _ _ => False) v D'
      rw [this]; exact h4)
    exact hrun a w ⟨hi.env.size, fun t v ht => by
      rcases get_append ht with h | h
      · exact he' t v (get_mem h)
      · exact hi.env.at_ t v h⟩ hi.defs hst'
/-! ### the same, quicker to reckon: the facts in a list, the last one first -/
abbrev Ent := Nat × Fct
def nthE : List Ent → Nat → Option Ent
  | [], _ => none
  | x :: _, 0 => some x
  | _ :: r, k + 1 => nthE r k
def selE (acc : List Ent) : List Nat → Option (List Ent)
  | [] => some []
  | p :: ps => match nthE acc p with
    | none => none
    | some x => match selE acc ps with
      | none => none
      | some r => some (x :: r)
def nthO : List Oper → Nat → Option Oper
  | [], _ => none
  | x :: _, 0 => some x
  | _ :: r, k + 1 => nthO r k
def preE (l : List Oper) (i : Nat) (acc : List Ent) (ps : List Nat) : Option (Nat × Oper × List Ent) := match nthO l i with
  | none => none
  | some o => match o.dst with
    | none => none
    | some d => match selE acc ps with
      | none => none
      | some L => some (d, o, L)
def depOk (l : List Oper) (m i : Nat) (ps : List Nat) : Bool := match nthO l i with
  | none => false
  | some o => ps.all fun p => Nat.blt p i && (depsE l m o).any (Nat.beq (i - 1 - p))
theorem nthE_get : ∀ {acc : List Ent} {p : Nat} {x : Ent}, nthE acc p = some x → acc[p]? = some x
  | _ :: _, 0, _, h => by simpa [nthE] using h
  | _ :: r, k + 1, _, h => by simpa using nthE_get (acc := r) (by simpa [nthE] using h)
theorem nthO_get : ∀ {l : List Oper} {p : Nat}, nthO l p = l[p]?
  | [], _ => by simp [nthO]
  | _ :: _, 0 => by simp [nthO]
  | _ :: r, k + 1 => by simpa [nthO] using nthO_get (l := r) (p := k)
theorem selE_mem : ∀ {acc : List Ent} {ps : List Nat} {L : List Ent}, selE acc ps = some L → ∀ x ∈ L, ∃ p ∈ ps, acc[p]? = some x
  | acc, [], L, h, x, hx => by simp [selE] at h; subst h; cases hx
  | acc, p :: ps, L, h, x, hx => by
    unfold selE at h
    split at h
    · cases h
    · rename_i y hy
      split at h
      · cases h
      · rename_i r hr
        injection h with h
        subst h
        rcases List.mem_cons.1 hx with rfl | hx
        · exact ⟨p, List.mem_cons_self .., nthE_get hy⟩
        · obtain ⟨q, h1, h2⟩ := selE_mem hr x hx
          exact ⟨q, List.mem_cons_of_mem _ h1, h2⟩
def okE (l : List Oper) : List Ent → Prop
  | [] => True
  | x :: r => dstE l r.length = some x.1 ∧ okE l r
theorem okE.get {l : List Oper} : ∀ {acc : List Ent}, okE l acc → ∀ {p : Nat} {x : Ent}, acc[p]? = some x → p < acc.length ∧ dstE l (acc.length - 1 - p) = some x.1
  | y :: r, h, 0, x, hx => by simp at hx; subst hx; exact ⟨by simp, by simpa using h.1⟩
  | y :: r, h, p + 1, x, hx => by
    obtain ⟨h1, h2⟩ := okE.get h.2 (p := p) (x := x) (by simpa using hx)
    refine ⟨by simp; omega, ?_⟩
    rw [show (y :: r).length - 1 - (p + 1) = r.length - 1 - p by simp; omega]; exact h2
theorem revGet {acc : List Ent} {p : Nat} {x : Ent} (h : acc[p]? = some x) (hp : p < acc.length) : (acc.reverse.map Prod.snd).getD (acc.length - 1 - p) (fun _ _ => False) = x.2 := by
  rw [List.getD_eq_getElem?_getD, List.getElem?_map, List.getElem?_reverse (by omega), show acc.length - 1 - (acc.length - 1 - p) = p by omega, h]; rfl
def TC (R : Dict → Dict → Prop) (P : Program) (n : Nat) (Q : Exit → Act → World → Prop) (g : Gl) (k : List It) (l : List Oper) (m : Nat) (base : Env) (D : Dict) (M : MList) (r i : Nat) (acc : List Ent) : Prop :=
  acc.length = i → i + r = m → okE l acc → Tele R P n g l m base D M (fun Fs => ∀ D', R D D' → ∃ L : List Ent, (∀ p ∈ L, p ∈ (List.range m).map fun j => ((dstE l j).getD 0, Fs.getD j (fun _ _ => False))) ∧ Wit L D' fun e' => Run P n Q g (.ops l.toArray (l.drop m) :: k) (e' ++ base) D' M) r (acc.reverse.map Prod.snd)
theorem TC.fct {l : List Oper} {m r i d : Nat} {base : Env} {acc L : List Ent} {o : Oper} (ps : List Nat) (h0 : preE l i acc ps = some (d, o, L)) (hd : depOk l m i ps = true) (F : Fct) (hF : MonoF R F)
    (h1 : ∀ D', R D D' → Wit L D' fun e => Run P n (LocQ R g D' M d F) g [.ops l.toArray [o]] (e ++ base) D' M) (h2 : TC R P n Q g k l m base D M r (i + 1) ((d, F) :: acc)) : TC R P n Q g k l m base D M (r + 1) i acc := by
  intro hlen hm hok
  unfold preE at h0
  rw [nthO_get] at h0
  unfold depOk at hd
  rw [nthO_get] at hd
  split at h0
  · cases h0
  · rename_i o' ho
    rw [ho] at hd
    simp only [List.all_eq_true, Bool.and_eq_true, Nat.blt_eq, List.any_eq_true] at hd
    split at h0
    · cases h0
    · rename_i d' hdst
      split at h0
      · cases h0
      · rename_i L' hL
        injection h0 with h0
        injection h0 with e1 h0
        injection h0 with e2 e3
        subst e1; subst e2; subst e3
        have hdl : dstE l acc.length = some d' := by rw [hlen]; simp [dstE, ho, hdst]
        refine ⟨F, hF, ?_, ?_⟩
        · unfold LocS
          have hil : (acc.reverse.map Prod.snd).length = i := by simpa using hlen
          rw [hil, ho]
          simp only
          intro D' hD'
          refine ⟨L', fun x hx => ?_, by rw [hdst]; exact h1 D' hD'⟩
          obtain ⟨p, hp, hpx⟩ := selE_mem hL x hx
          obtain ⟨hpl, hpd⟩ := hok.get hpx
          obtain ⟨hpi, q, hq, hqe⟩ := hd p hp
          have hqe' : i - 1 - p = q := Nat.eq_of_beq_eq_true hqe
          refine List.mem_map.2 ⟨i - 1 - p, hqe' ▸ hq, ?_⟩
          have e1 := revGet hpx hpl
          rw [hlen] at e1 hpd
          rw [hpd, e1]; rfl
        · have := h2 (by simp [hlen]) (by omega) ⟨hdl, hok⟩
          simpa using this
theorem TC.val {l : List Oper} {m r i d : Nat} {base : Env} {acc L : List Ent} {o : Oper} {V : Value} (ps : List Nat) (h0 : preE l i acc ps = some (d, o, L)) (hd : depOk l m i ps = true)
    (h1 : ∀ D', R D D' → Wit L D' fun e => Run P n (LocQ R g D' M d (fun v _ => V = v)) g [.ops l.toArray [o]] (e ++ base) D' M) (h2 : TC R P n Q g k l m base D M r (i + 1) ((d, fun v _ => V = v) :: acc)) : TC R P n Q g k l m base D M (r + 1) i acc :=
  TC.fct ps h0 hd _ (MonoF.eq V) h1 h2
theorem TC.fctM {l : List Oper} {m r i d : Nat} {base : Env} {acc L : List Ent} {o : Oper} {F : Fct} (ps : List Nat) (h0 : preE l i acc ps = some (d, o, L)) (hd : depOk l m i ps = true)
    (h1 : ∀ D', R D D' → Wit L D' fun e => Run P n (LocQ R g D' M d F) g [.ops l.toArray [o]] (e ++ base) D' M) (hF : MonoF R F) (h2 : TC R P n Q g k l m base D M r (i + 1) ((d, F) :: acc)) : TC R P n Q g k l m base D M (r + 1) i acc :=
  TC.fct ps h0 hd F hF h1 h2
theorem TC.fin {l rest : List Oper} {m : Nat} {base : Env} {acc : List Ent} (hr : l.drop m = rest) (h : ∀ D', R D D' → Wit acc D' fun e' => Run P n Q g (.ops l.toArray rest :: k) (e' ++ base) D' M) : TC R P n Q g k l m base D M 0 m acc := by
  intro hlen hm hok D' hD'
  refine ⟨acc, fun x hx => ?_, by rw [hr]; exact h D' hD'⟩
  obtain ⟨p, hp⟩ := List.getElem?_of_mem hx
  obtain ⟨hpl, hpd⟩ := hok.get hp
  refine List.mem_map.2 ⟨acc.length - 1 - p, List.mem_range.2 (by omega), ?_⟩
  rw [hpd, revGet hp hpl]; rfl
theorem Run.drawC {id : Nat} {l : List Oper} (hG : Grow R) (m : Nat) (base : Env) (hmix : P.follows .mixedOrders = true) (hok : drawOk l m n (base.map Prod.fst) = true) (hbase : e.Has base)
    (h : TC R P n Q g k l m base D M m 0 []) : Run P n Q g (.code (.region id l.toArray true) :: k) e D M :=
  Run.draw hG m base hmix hok hbase (h rfl (by omega) trivial)
end
end Go.Proofs.YtgdpjpmjcpieiaaGreat
