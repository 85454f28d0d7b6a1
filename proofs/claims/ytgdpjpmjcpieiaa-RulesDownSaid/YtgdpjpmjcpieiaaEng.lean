/- The engine: worlds are told by what never changes any more (D) and by what may (M); a frame by the slots that are known; rules for each form of code. No condition. -/
import Derived.Orders
import Derived.Tactics
import Derived.OwnWalk
import Derived.Deep.LoopGhost
import Derived.Scope
namespace Go.Proofs.Ytgdpjpmjcpieiaa
open Go
set_option linter.unusedVariables false
set_option linter.unusedSimpArgs false

/-! ### 1. Worlds -/
abbrev Dict := Nat → Option Obj
abbrev MList := List (Nat × Obj)
def Le (D D' : Dict) : Prop := ∀ b o, D b = some o → D' b = some o
theorem Le.rfl' {D : Dict} : Le D D := fun _ _ h => h
theorem Le.mono {D D' D'' : Dict} (h : Le D D') (h' : Le D' D'') : Le D D'' := fun b o k => h' b o (h b o k)
theorem Le.trans {D D' D'' : Dict} (h : Le D D') (h' : Le D' D'') : Le D D'' := fun b o k => h' b o (h b o k)
def ins (D : Dict) (b : Nat) (o : Obj) : Dict := fun x => if x = b then some o else D x
theorem ins_same (D : Dict) (b : Nat) (o : Obj) : ins D b o b = some o := by simp [ins]
structure Gl where
  os : Os
  out : Array (Nat × ByteArray)
  tape : Nat → Question → Nat
  drw : Nat
structure St (g : Gl) (w : World) (D : Dict) (M : MList) : Prop where
  os : w.os = g.os
  out : w.output = g.out
  tape : w.tape = g.tape
  imm : ∀ b o, D b = some o → w.heap[b]? = some o
  mt : ∀ p ∈ M, w.heap[p.1]? = some p.2
  nd : (M.map Prod.fst).Nodup
  dis : ∀ p ∈ M, D p.1 = none
  drw : g.drw ≤ w.drawn
theorem St.drew {g : Gl} {w : World} {D : Dict} {M : MList} (h : St g w D M) (n : Nat) (hn : w.drawn ≤ n) : St g { w with drawn := n } D M :=
  ⟨h.os, h.out, h.tape, h.imm, h.mt, h.nd, h.dis, Nat.le_trans h.drw hn⟩
theorem St.lt {g : Gl} {w : World} {D : Dict} {M : MList} (h : St g w D M) {b : Nat} {o : Obj} (hb : D b = some o) : b < w.heap.size :=
  (Array.getElem?_eq_some_iff.1 (h.imm b o hb)).1
theorem St.ltM {g : Gl} {w : World} {D : Dict} {M : MList} (h : St g w D M) {p : Nat × Obj} (hp : p ∈ M) : p.1 < w.heap.size :=
  (Array.getElem?_eq_some_iff.1 (h.mt p hp)).1
theorem St.perm {g : Gl} {w : World} {D : Dict} {M M' : MList} (h : St g w D M) (hp : M'.Perm M) : St g w D M' :=
  ⟨h.os, h.out, h.tape, h.imm, fun p k => h.mt p (hp.mem_iff.1 k), (hp.map Prod.fst).nodup_iff.2 h.nd, fun p k => h.dis p (hp.mem_iff.1 k), h.drw⟩
theorem St.sub {g : Gl} {w : World} {D : Dict} {M M' : MList} (h : St g w D M) (hp : M'.Sublist M) : St g w D M' :=
  ⟨h.os, h.out, h.tape, h.imm, fun p k => h.mt p (hp.subset k), (hp.map Prod.fst).nodup h.nd, fun p k => h.dis p (hp.subset k), h.drw⟩
theorem St.drop {g : Gl} {w : World} {D : Dict} {M : MList} (h : St g w D M) (n : Nat) : St g w D (M.drop n) := h.sub (List.drop_sublist n M)
theorem St.alloc {g : Gl} {w : World} {D : Dict} {M : MList} (h : St g w D M) (o : Obj) : St g { w with heap := w.heap.push o } D ((w.heap.size, o) :: M) := by
  have hlt : ∀ {b : Nat} {o' : Obj}, w.heap[b]? = some o' → (w.heap.push o)[b]? = some o' := fun {b o'} hb => by
    have := (Array.getElem?_eq_some_iff.1 hb).1
    rw [Array.getElem?_push, if_neg (by omega)]; exact hb
  refine ⟨h.os, h.out, h.tape, fun b o' hb => hlt (h.imm b o' hb), fun p hp => ?_, ?_, fun p hp => ?_, h.drw⟩
  · rcases List.mem_cons.1 hp with rfl | hp
    · simp
    · exact hlt (h.mt p hp)
  · simp only [List.map_cons, List.nodup_cons]
    refine ⟨fun hm => ?_, h.nd⟩
    obtain ⟨p, hp, he⟩ := List.mem_map.1 hm
    have := h.ltM hp
    omega
  · rcases List.mem_cons.1 hp with rfl | hp
    · cases hD : D w.heap.size with
      | none => rfl
      | some o' => exact absurd (h.lt hD) (by omega)
    · exact h.dis p hp
theorem St.set {g : Gl} {w w' : World} {D : Dict} {M : MList} {b : Nat} {o o' : Obj} (h : St g w D ((b, o) :: M))
    (hos : w'.os = w.os) (hout : w'.output = w.output) (htape : w'.tape = w.tape) (hdrw : w.drawn ≤ w'.drawn) (hb : w'.heap[b]? = some o') (hr : ∀ c, c ≠ b → w'.heap[c]? = w.heap[c]?) : St g w' D ((b, o') :: M) := by
  have hnd := h.nd
  simp only [List.map_cons, List.nodup_cons] at hnd
  have hne : ∀ p ∈ M, p.1 ≠ b := fun p hp he => hnd.1 (List.mem_map.2 ⟨p, hp, he⟩)
  have hD : D b = none := h.dis (b, o) (List.mem_cons_self ..)
  refine ⟨hos.trans h.os, hout.trans h.out, htape.trans h.tape, fun c u hc => ?_, fun p hp => ?_, by simpa using hnd, fun p hp => ?_, Nat.le_trans h.drw hdrw⟩
  · rw [hr c (fun e => by rw [e, hD] at hc; cases hc)]; exact h.imm c u hc
  · rcases List.mem_cons.1 hp with rfl | hp
    · exact hb
    · rw [hr _ (hne p hp)]; exact h.mt p (List.mem_cons_of_mem _ hp)
  · rcases List.mem_cons.1 hp with rfl | hp
    · exact hD
    · exact h.dis p (List.mem_cons_of_mem _ hp)
/-- what will never be written again -/
theorem St.freeze {g : Gl} {w : World} {D : Dict} {M : MList} {b : Nat} {o : Obj} (h : St g w D ((b, o) :: M)) : St g w (ins D b o) M := by
  have hnd := h.nd
  simp only [List.map_cons, List.nodup_cons] at hnd
  refine ⟨h.os, h.out, h.tape, fun c u hc => ?_, fun p hp => h.mt p (List.mem_cons_of_mem _ hp), hnd.2, fun p hp => ?_, h.drw⟩
  · unfold ins at hc
    split at hc
    · rename_i e; subst e; injection hc with hc; subst hc; exact h.mt (c, o) (List.mem_cons_self ..)
    · exact h.imm c u hc
  · unfold ins
    rw [if_neg]
    · exact h.dis p (List.mem_cons_of_mem _ hp)
    · exact fun e => hnd.1 (List.mem_map.2 ⟨p, hp, e⟩)
theorem St.freeze_le {g : Gl} {w : World} {D : Dict} {M : MList} {b : Nat} {o : Obj} (h : St g w D ((b, o) :: M)) : Le D (ins D b o) := by
  intro c u hc
  unfold ins
  rw [if_neg]
  · exact hc
  · rintro rfl
    have := h.dis (c, o) (List.mem_cons_self ..)
    simp only at this
    rw [this] at hc; cases hc

/-! ### 2. Frames -/
abbrev Env := List (Nat × Value)
def Env.get : Env → Nat → Option Value
  | [], _ => none
  | (s, v) :: r, t => match Nat.beq s t with
    | true => some v
    | false => Env.get r t
def Env.ev (e : Env) : Operand → Option Value
  | .tmp t => e.get t
  | .const v => some v
  | .global g => some (.pointer (some ⟨g, 0, none⟩))
  | .func f => some (.func (.func f) #[] #[])
def Env.evs (e : Env) : List Operand → Option (List Value)
  | [] => some []
  | x :: r => match e.ev x with
    | none => none
    | some v => match Env.evs e r with
      | none => none
      | some vs => some (v :: vs)
def Env.put (e : Env) : Option Nat → Value → Env
  | none, _ => e
  | some d, v => (d, v) :: e
def dstOk (n : Nat) : Option Nat → Bool
  | none => true
  | some d => Nat.blt d n
structure EnvOk (n : Nat) (e : Env) (a : Act) : Prop where
  size : a.tmps.size = n
  at_ : ∀ t v, e.get t = some v → a.tmps[t]? = some v
theorem EnvOk.ev {n : Nat} {e : Env} {a : Act} (h : EnvOk n e a) {x : Operand} {v : Value} (hx : e.ev x = some v) : a.eval x = v := by
  cases x with
  | tmp t => have := h.at_ t v hx; simp [Act.eval, this]
  | const u => simpa [Env.ev, Act.eval] using hx
  | global g => simpa [Env.ev, Act.eval] using hx
  | func f => simpa [Env.ev, Act.eval] using hx
theorem EnvOk.evs {n : Nat} {e : Env} {a : Act} (h : EnvOk n e a) : ∀ {xs : List Operand} {vs : List Value}, e.evs xs = some vs → xs.map a.eval = vs
  | [], vs, hx => by simpa [Env.evs] using hx
  | x :: r, vs, hx => by
    unfold Env.evs at hx
    split at hx
    · cases hx
    · rename_i v hv
      split at hx
      · cases hx
      · rename_i us hus
        injection hx with hx
        subst hx
        simp [h.ev hv, EnvOk.evs h hus]
theorem EnvOk.put {n : Nat} {e : Env} {a : Act} (h : EnvOk n e a) {dst : Option Nat} (hd : dstOk n dst = true) (v : Value) : EnvOk n (e.put dst v) (a.put dst v) := by
  cases dst with
  | none => exact h
  | some d =>
    have hd' : d < n := by simpa [dstOk, Nat.blt_eq] using hd
    refine ⟨by simp [Act.put, h.size], fun t u ht => ?_⟩
    simp only [Env.put, Env.get] at ht
    simp only [Act.put]
    by_cases e1 : d = t
    · subst e1
      simp at ht
      subst ht
      simp [h.size, hd']
    · have hb : Nat.beq d t = false := by
        cases hq : Nat.beq d t with
        | false => rfl
        | true => exact absurd (Nat.eq_of_beq_eq_true hq) e1
      rw [hb] at ht
      rw [Array.getElem?_setIfInBounds_ne e1]
      exact h.at_ t u ht
theorem Act.put_defers' (a : Act) (dst : Option Nat) (v : Value) : (a.put dst v).defers = a.defers := by cases dst <;> rfl
/-- fewer slots are known -/
def Env.Has (e : Env) : Env → Prop
  | [] => True
  | (s, v) :: r => e.get s = some v ∧ Env.Has e r
theorem Env.Has.get {e : Env} : ∀ {e' : Env}, e.Has e' → ∀ {t v}, e'.get t = some v → e.get t = some v
  | [], _, _, _, h => by cases h
  | (s, u) :: r, hh, t, v, h => by
    obtain ⟨h1, h2⟩ := hh
    unfold Env.get at h
    split at h
    · rename_i hb
      injection h with h
      subst h
      rw [← Nat.eq_of_beq_eq_true hb]; exact h1
    · exact Env.Has.get h2 h
theorem EnvOk.has {n : Nat} {e e' : Env} {a : Act} (h : EnvOk n e a) (hh : e.Has e') : EnvOk n e' a := ⟨h.size, fun t v k => h.at_ t v (hh.get k)⟩

/-! ### 3. Code, what comes behind it, and the judgement -/
inductive It where
  | code (c : Code)
  | ops (all : Array Oper) (l : List Oper)
  | block (id : Nat)
  | again (I : Act → World → Prop)
  | scope
def itp (P : Program) (Q : Exit → Act → World → Prop) : List It → Exit → Act → World → Prop
  | [] => Q
  | .code c :: k => Exit.then (c.wp P (itp P Q k)) (itp P Q k)
  | .ops all l :: k => Exit.then (wpList P all (itp P Q k) l) (itp P Q k)
  | .block id :: k => Exit.inBlock id (itp P Q k)
  | .again I :: k => Exit.then I (itp P Q k)
  | .scope :: k => Exit.noGoto (itp P Q k)
theorem itp_ret {P : Program} {Q : Exit → Act → World → Prop} {a : Act} {w : World} (h : Q .ret a w) : ∀ k, itp P Q k .ret a w
  | [] => h
  | .code _ :: k | .ops _ _ :: k | .block _ :: k | .again _ :: k | .scope :: k => itp_ret h k
def drp (id : Nat) : List It → Option (List It)
  | .block i :: k => match Nat.beq id i with
    | true => some k
    | false => drp id k
  | _ :: k => drp id k
  | [] => none
theorem itp_exit {P : Program} {Q : Exit → Act → World → Prop} {a : Act} {w : World} {id : Nat} : ∀ {k k' : List It}, drp id k = some k' → itp P Q k' .normal a w → itp P Q k (.exit id) a w
  | [], _, h, _ => by cases h
  | .code _ :: k, k', h, hh => itp_exit (k := k) (by simpa [drp] using h) hh
  | .ops _ _ :: k, k', h, hh => itp_exit (k := k) (by simpa [drp] using h) hh
  | .again _ :: k, k', h, hh => itp_exit (k := k) (by simpa [drp] using h) hh
  | .scope :: k, k', h, hh => itp_exit (k := k) (by simpa [drp] using h) hh
  | .block i :: k, k', h, hh => by
    simp only [itp, Exit.inBlock]
    by_cases e1 : id = i
    · subst e1
      simp [drp] at h
      subst h
      rw [if_pos rfl]; exact hh
    · have hb : Nat.beq id i = false := by
        cases hq : Nat.beq id i with
        | false => rfl
        | true => exact absurd (Nat.eq_of_beq_eq_true hq) e1
      rw [if_neg e1]
      exact itp_exit (k := k) (by simpa [drp, hb] using h) hh
theorem Oper.wp_mono2 {P : Program} {o : Oper} {a : Act} {w : World} {K K' : Act → World → Prop} {Q Q' : Exit → Act → World → Prop} (h : ∀ a w, K a w → K' a w) (hQ : ∀ e a w, Q e a w → Q' e a w)
    (hh : o.wp P a w K Q) : o.wp P a w K' Q' := by
  unfold Oper.wp at *
  generalize (execOp a.eval o).run P w = r at *
  cases r with
  | ok n w' =>
    cases n <;> simp only [Oper.upon] at hh ⊢ <;>
      first
        | exact h _ _ hh
        | exact Calls.mono hh (fun e w'' he => by cases e <;> first | exact h _ _ he | exact hQ _ _ _ he | exact (let ⟨x, y, z⟩ := he; ⟨x, y, hQ _ _ _ z⟩))
        | exact Rows.mono hh (fun _ _ he => h _ _ he)
  | halt x w' => cases x <;> simp only [Oper.upon] at hh ⊢ <;> first | exact hQ _ _ _ hh | exact hh
theorem wpList_mono {P : Program} {all : Array Oper} {Q Q' : Exit → Act → World → Prop} (hQ : ∀ e a w, Q e a w → Q' e a w) : ∀ (l : List Oper) {a : Act} {w : World}, wpList P all Q l a w → wpList P all Q' l a w
  | [], _, _, h => hQ _ _ _ h
  | o :: r, a, w, h => by
    unfold wpList at *
    split
    · rename_i hw
      rw [if_pos hw] at h
      exact h.imp (Oper.wp_mono2 (fun a w => wpList_mono hQ r) hQ) (fun ⟨h1, x, y, z⟩ => ⟨h1, x, y, hQ _ _ _ z⟩)
    · rename_i hw
      rw [if_neg hw] at h
      exact wpList_mono hQ r h
/-- from whatever frame and world that fits, what comes behind goes well -/
def Run (P : Program) (n : Nat) (Q : Exit → Act → World → Prop) (g : Gl) (k : List It) (e : Env) (D : Dict) (M : MList) : Prop :=
  ∀ a w, EnvOk n e a → a.defers = [] → St g w D M → itp P Q k .normal a w
section
variable {P : Program} {n : Nat} {Q : Exit → Act → World → Prop} {g : Gl} {k : List It} {e : Env} {D : Dict} {M : MList}
theorem Run.seq {x y : Code} (h : Run P n Q g (.code x :: .code y :: k) e D M) : Run P n Q g (.code (.seq x y) :: k) e D M :=
  fun a w he hd hs => wp_seq (h a w he hd hs)
theorem Run.skip (h : Run P n Q g k e D M) : Run P n Q g (.code .skip :: k) e D M := fun a w he hd hs => wp_skip (h a w he hd hs)
theorem Run.block {id : Nat} {c : Code} (h : Run P n Q g (.code c :: .block id :: k) e D M) : Run P n Q g (.code (.block id c) :: k) e D M :=
  fun a w he hd hs => wp_block (h a w he hd hs)
theorem Run.scope {c : Code} (h : Run P n Q g (.code c :: .scope :: k) e D M) : Run P n Q g (.code (.scope c) :: k) e D M :=
  fun a w he hd hs => wp_scope_straight (h a w he hd hs)
theorem Run.endScope (h : Run P n Q g k e D M) : Run P n Q g (.scope :: k) e D M := h
theorem Run.label {l : Nat} (h : Run P n Q g k e D M) : Run P n Q g (.code (.label l) :: k) e D M := fun a w he hd hs => wp_label (h a w he hd hs)
theorem Run.endBlock {id : Nat} (h : Run P n Q g k e D M) : Run P n Q g (.block id :: k) e D M := h
theorem Run.exit {id : Nat} {k' : List It} (hk : drp id k = some k') (h : Run P n Q g k' e D M) : Run P n Q g (.code (.exit id) :: k) e D M :=
  fun a w he hd hs => wp_exit (itp_exit hk (h a w he hd hs))
theorem Run.cond {c : Operand} {x y : Code} {b : Bool} (hc : e.ev c = some (.bool b)) (ht : b = true → Run P n Q g (.code x :: k) e D M) (hf : b = false → Run P n Q g (.code y :: k) e D M) :
    Run P n Q g (.code (.cond c x y) :: k) e D M := fun a w he hd hs => wp_cond_split (he.ev hc) (fun h => ht h a w he hd hs) (fun h => hf h a w he hd hs)
theorem Run.has {e' : Env} (hh : e.Has e') (h : Run P n Q g k e' D M) : Run P n Q g k e D M := fun a w he hd hs => h a w (he.has hh) hd hs
theorem Run.st {D' : Dict} {M' : MList} (hh : ∀ w, St g w D M → St g w D' M') (h : Run P n Q g k e D' M') : Run P n Q g k e D M := fun a w he hd hs => h a w he hd (hh w hs)
theorem Run.know {p : Prop} (hp : ∀ w, St g w D M → p) (h : p → Run P n Q g k e D M) : Run P n Q g k e D M := fun a w he hd hs => h (hp w hs) a w he hd hs
theorem Run.freeze {b : Nat} {o : Obj} {M : MList} (h : Le D (ins D b o) → D b = none → Run P n Q g k e (ins D b o) M) : Run P n Q g k e D ((b, o) :: M) :=
  fun a w he hd hs => h hs.freeze_le (hs.dis _ (List.mem_cons_self ..)) a w he hd hs.freeze
theorem Run.front (i : Nat) {p : Nat × Obj} {M' : MList} (hp : M'.Perm M) (h : Run P n Q g k e D M') : Run P n Q g k e D M := h.st fun _ hs => hs.perm hp
theorem Run.nilOps {all : Array Oper} (h : Run P n Q g k e D M) : Run P n Q g (.ops all [] :: k) e D M := fun a w he hd hs => h a w he hd hs
theorem Run.region {id : Nat} {l : List Oper} (h : Run P n Q g (.ops l.toArray l :: k) e D M) : Run P n Q g (.code (.region id l.toArray false) :: k) e D M :=
  fun a w he hd hs => wp_region_lit (h a w he hd hs)
/-! ### 4. The function's ends -/
theorem Run.ret {fn : Func} {R : Ending → World → Prop} {v : Value} (hr : ∀ (a : Act) (w : World), EnvOk n e a → (results fn a.tmps).run P w = .ok v w) (h : ∀ w, St g w D M → R (.returned v) w) :
    Run P n (bodyPost P fn R) g (.code .ret :: k) e D M :=
  fun a w he hd hs => wp_ret (itp_ret (k := k) (Q := bodyPost P fn R) ⟨hd, v, hr a w he, h w hs⟩)
theorem Run.fin {fn : Func} {R : Ending → World → Prop} {v : Value} (hr : ∀ (a : Act) (w : World), EnvOk n e a → (results fn a.tmps).run P w = .ok v w) (h : ∀ w, St g w D M → R (.returned v) w) :
    Run P n (bodyPost P fn R) g [] e D M := fun a w he hd hs => ⟨hd, v, hr a w he, h w hs⟩
theorem get_tmps {e : Env} {a : Act} (he : EnvOk n e a) {t : Nat} {v : Value} (h : e.get t = some v) : a.tmps.getD t undef = v := by
  have := he.at_ t v h; simp [this]
theorem res0 {fn : Func} (h : fn.results = #[]) : ∀ (a : Act) (w : World), EnvOk n e a → (results fn a.tmps).run P w = .ok (.tuple #[]) w := fun a w _ => results_none h a.tmps P w
theorem res1 {fn : Func} {t : Tmp} {v : Value} (h : fn.results = #[.tmp t]) (hv : e.get t = some v) : ∀ (a : Act) (w : World), EnvOk n e a → (results fn a.tmps).run P w = .ok v w :=
  fun a w he => by rw [results_tmp h a.tmps P w, get_tmps he hv]
theorem res2 {fn : Func} {t u : Tmp} {v x : Value} (h : fn.results = #[.tmp t, .tmp u]) (hv : e.get t = some v) (hx : e.get u = some x) : ∀ (a : Act) (w : World), EnvOk n e a → (results fn a.tmps).run P w = .ok (.tuple #[v, x]) w :=
  fun a w he => by rw [results_tmp2 h a.tmps P w, get_tmps he hv, get_tmps he hx]
theorem res3 {fn : Func} {t u s : Tmp} {v x y : Value} (h : fn.results = #[.tmp t, .tmp u, .tmp s]) (hv : e.get t = some v) (hx : e.get u = some x) (hy : e.get s = some y) : ∀ (a : Act) (w : World), EnvOk n e a → (results fn a.tmps).run P w = .ok (.tuple #[v, x, y]) w :=
  fun a w he => by rw [results_tmp3 h a.tmps P w, get_tmps he hv, get_tmps he hx, get_tmps he hy]
/-! ### 5. Loops -/
theorem Run.loop {ι : Type} {c : Code} (C : Env) (E : ι → Env) (DD : ι → Dict) (MM : ι → MList) (pre : ι → Prop) (μ : ι → Nat) (i0 : ι) (hC : e.Has C) (h0 : pre i0) (hE : e.Has (E i0)) (hS : ∀ w, St g w D M → St g w (DD i0) (MM i0))
    (hb : ∀ i, pre i → Run P n Q g (.code c :: .again (fun a w => ∃ j, pre j ∧ μ j < μ i ∧ EnvOk n (E j ++ C) a ∧ a.defers = [] ∧ St g w (DD j) (MM j)) :: k) (E i ++ C) (DD i) (MM i)) :
    Run P n Q g (.code (.loop c) :: k) e D M := by
  intro a w he hd hs
  show (Code.loop c).wp P (itp P Q k) a w
  have happ : ∀ (A B : Env), e.Has A → e.Has B → e.Has (A ++ B) := by
    intro A B hA hB
    induction A with
    | nil => exact hB
    | cons p r ih => exact ⟨hA.1, ih hA.2⟩
  refine wp_loop_ghost (fun m a w => ∃ i, pre i ∧ μ i = m ∧ EnvOk n (E i ++ C) a ∧ a.defers = [] ∧ St g w (DD i) (MM i)) (μ i0) ⟨i0, h0, rfl, he.has (happ _ _ hE hC), hd, hS w hs⟩ ?_
  rintro m a w ⟨i, hi, rfl, he, hd, hs⟩
  refine wp_mono (hb i hi a w he hd hs) fun ex a' w' hx => ?_
  cases ex with
  | normal =>
    obtain ⟨j, hj, hlt, he', hd', hs'⟩ := hx
    exact ⟨μ j, hlt, j, hj, rfl, he', hd', hs'⟩
  | _ => exact hx
theorem Run.again {ι : Type} {C : Env} {E : ι → Env} {DD : ι → Dict} {MM : ι → MList} {pre : ι → Prop} {μ : ι → Nat} {i : ι} (j : ι) (hj : pre j) (hlt : μ j < μ i) (hE : e.Has (E j ++ C)) (hS : ∀ w, St g w D M → St g w (DD j) (MM j)) :
    Run P n Q g (.again (fun a w => ∃ j, pre j ∧ μ j < μ i ∧ EnvOk n (E j ++ C) a ∧ a.defers = [] ∧ St g w (DD j) (MM j)) :: k) e D M :=
  fun a w he hd hs => ⟨j, hj, hlt, he.has hE, hd, hS w hs⟩
/-- ways meet: the piece, then what comes behind, once -/
theorem Run.cut {ι : Type} {x : It} (C : Env) (E : ι → Env) (DD : ι → Dict) (MM : ι → MList) (pre : ι → Prop) (hC : e.Has C)
    (hx : Run P n Q g (x :: .again (fun a w => ∃ j, pre j ∧ EnvOk n (E j ++ C) a ∧ a.defers = [] ∧ St g w (DD j) (MM j)) :: k) e D M)
    (hk : ∀ j, pre j → Run P n Q g k (E j ++ C) (DD j) (MM j)) : Run P n Q g (x :: k) e D M := by
  intro a w he hd hs
  have h := hx a w he hd hs
  have mono : ∀ ex a w, itp P Q (.again (fun a w => ∃ j, pre j ∧ EnvOk n (E j ++ C) a ∧ a.defers = [] ∧ St g w (DD j) (MM j)) :: k) ex a w → itp P Q k ex a w := by
    intro ex a w hh
    cases ex with
    | normal => obtain ⟨j, hj, he', hd', hs'⟩ := hh; exact hk j hj a w he' hd' hs'
    | _ => exact hh
  cases x with
  | code c => exact wp_mono h mono
  | ops all l => exact wpList_mono mono l h
  | block id =>
    show itp P Q k .normal a w
    exact mono _ _ _ h
  | again I => exact h
  | scope =>
    show itp P Q k .normal a w
    exact mono _ _ _ h
theorem Run.meet {ι : Type} {C : Env} {E : ι → Env} {DD : ι → Dict} {MM : ι → MList} {pre : ι → Prop} (j : ι) (hj : pre j) (hE : e.Has (E j ++ C)) (hS : ∀ w, St g w D M → St g w (DD j) (MM j)) :
    Run P n Q g (.again (fun a w => ∃ j, pre j ∧ EnvOk n (E j ++ C) a ∧ a.defers = [] ∧ St g w (DD j) (MM j)) :: k) e D M :=
  fun a w he hd hs => ⟨j, hj, he.has hE, hd, hS w hs⟩
end
end Go.Proofs.Ytgdpjpmjcpieiaa
