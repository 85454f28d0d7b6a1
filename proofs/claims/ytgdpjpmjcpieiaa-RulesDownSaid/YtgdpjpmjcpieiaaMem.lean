/- The engine's rules for memory: variables, structs, slices, append, calls. No condition. -/
import Derived.Test.YtgdpjpmjcpieiaaOps
import Derived.Laws.CopyRow
import Derived.Laws.OwnMore
import Derived.Maps.AppendAt
namespace Go.Proofs.Ytgdpjpmjcpieiaa
open Go
set_option linter.unusedVariables false
set_option linter.unusedSimpArgs false

/-! ### 1. What a cell holds -/
def takeN : Nat → Nat → List Value → Option (List Value)
  | 0, 0, _ => some []
  | 0, _ + 1, [] => none
  | 0, n + 1, v :: r => match takeN 0 n r with
    | none => none
    | some vs => some (v :: vs)
  | _ + 1, _, [] => none
  | k + 1, n, _ :: r => takeN k n r
theorem takeN_spec : ∀ {k n : Nat} {l vs : List Value}, takeN k n l = some vs → vs.length = n ∧ ∀ j, j < n → l[k + j]? = vs[j]?
  | 0, 0, l, vs, h => by simp [takeN] at h; subst h; simp
  | 0, n + 1, [], vs, h => by simp [takeN] at h
  | 0, n + 1, v :: r, vs, h => by
    unfold takeN at h
    split at h
    · cases h
    · rename_i us hus
      injection h with h
      subst h
      obtain ⟨h1, h2⟩ := takeN_spec hus
      refine ⟨by simp [h1], fun j hj => ?_⟩
      cases j with
      | zero => simp
      | succ j => have := h2 j (by omega); simpa [Nat.add_comm, Nat.add_left_comm] using this
  | k + 1, n, [], vs, h => by simp [takeN] at h
  | k + 1, n, v :: r, vs, h => by
    obtain ⟨h1, h2⟩ := takeN_spec (k := k) (l := r) (by simpa [takeN] using h)
    exact ⟨h1, fun j hj => by have := h2 j hj; simpa [Nat.add_right_comm k 1 j] using this⟩
/-- vs laid over l from k on -/
def layN : Nat → List Value → List Value → Option (List Value)
  | 0, l, [] => some l
  | 0, [], _ :: _ => none
  | 0, _ :: r, v :: vs => match layN 0 r vs with
    | none => none
    | some l => some (v :: l)
  | _ + 1, [], _ => none
  | k + 1, x :: r, vs => match layN k r vs with
    | none => none
    | some l => some (x :: l)
theorem layN_spec : ∀ {k : Nat} {l vs l' : List Value}, layN k l vs = some l' → l' = l.take k ++ vs ++ l.drop (k + vs.length) ∧ k + vs.length ≤ l.length
  | 0, l, [], l', h => by simp [layN] at h; subst h; simp
  | 0, [], _ :: _, l', h => by simp [layN] at h
  | 0, x :: r, v :: vs, l', h => by
    unfold layN at h
    split at h
    · cases h
    · rename_i q hq
      injection h with h
      subst h
      obtain ⟨h1, h2⟩ := layN_spec hq
      subst h1
      simp at h2 ⊢
      exact h2
  | k + 1, [], vs, l', h => by simp [layN] at h
  | k + 1, x :: r, vs, l', h => by
    unfold layN at h
    split at h
    · cases h
    · rename_i q hq
      injection h with h
      subst h
      obtain ⟨h1, h2⟩ := layN_spec hq
      subst h1
      simp [Nat.add_right_comm k 1] at h2 ⊢
      omega
/-- block b is known to be o -/
def Blk (D : Dict) (M : MList) (b : Nat) (o : Obj) : Prop := D b = some o ∨ (b, o) ∈ M
theorem Blk.at_ {g : Gl} {w : World} {D : Dict} {M : MList} {b : Nat} {o : Obj} (h : Blk D M b o) (hs : St g w D M) : w.heap[b]? = some o := by
  rcases h with h | h
  · exact hs.imm b o h
  · exact hs.mt _ h
/-- the cells from an address on -/
def Cs (D : Dict) (M : MList) (b off : Nat) (vs : List Value) : Prop := ∃ c T fr, Blk D M b (.cells c T fr) ∧ ∀ j u, vs[j]? = some u → c[off + j]? = some u
theorem Cs.mk {D : Dict} {M : MList} {b off : Nat} {vs l : List Value} {T : TypeId} {fr : Nat × Nat} (h : Blk D M b (.cells l.toArray T fr)) (ht : takeN off vs.length l = some vs) : Cs D M b off vs := by
  refine ⟨_, T, fr, h, fun j u hu => ?_⟩
  have hj : j < vs.length := by
    rcases Nat.lt_or_ge j vs.length with h | h
    · exact h
    · rw [List.getElem?_eq_none h] at hu; cases hu
  rw [List.getElem?_toArray, (takeN_spec ht).2 j hj]; exact hu
theorem Cs.mkM {D : Dict} {M : MList} {b off n : Nat} {vs l : List Value} {T : TypeId} {fr : Nat × Nat} (h : (b, Obj.cells l.toArray T fr) ∈ M) (ht : takeN off n l = some vs) : Cs D M b off vs :=
  Cs.mk (.inr h) (by rw [(takeN_spec ht).1]; exact ht)
theorem Cs.mkD {D : Dict} {M : MList} {b off n : Nat} {vs l : List Value} {T : TypeId} {fr : Nat × Nat} (h : D b = some (Obj.cells l.toArray T fr)) (ht : takeN off n l = some vs) : Cs D M b off vs :=
  Cs.mk (.inl h) (by rw [(takeN_spec ht).1]; exact ht)
theorem add_plain (b o j : Nat) : (⟨b, o, none⟩ : Addr).add j = ⟨b, o + j, none⟩ := by unfold Addr.add; split <;> simp_all
theorem Cs.cell {g : Gl} {w : World} {D : Dict} {M : MList} {b off : Nat} {vs : List Value} (h : Cs D M b off vs) (hs : St g w D M) : ∀ j u, vs[j]? = some u → w.cell? ((⟨b, off, none⟩ : Addr).add j) = some u := by
  obtain ⟨c, T, fr, hb, hc⟩ := h
  intro j u hu
  rw [add_plain]
  simp [World.cell?, hb.at_ hs, hc j u hu]

/-- what changes: one block of M -/
inductive MSet : MList → Nat → Obj → Obj → MList → Prop
  | here (M : MList) (b : Nat) (o o' : Obj) : MSet ((b, o) :: M) b o o' ((b, o') :: M)
  | there {M M' : MList} {b : Nat} {o o' : Obj} (p : Nat × Obj) : MSet M b o o' M' → MSet (p :: M) b o o' (p :: M')
theorem MSet.split {M M' : MList} {b : Nat} {o o' : Obj} (h : MSet M b o o' M') : ∃ A B, M = A ++ (b, o) :: B ∧ M' = A ++ (b, o') :: B := by
  induction h with
  | here M b o o' => exact ⟨[], M, rfl, rfl⟩
  | there p _ ih => obtain ⟨A, B, rfl, rfl⟩ := ih; exact ⟨p :: A, B, rfl, rfl⟩
theorem MSet.mem {M M' : MList} {b : Nat} {o o' : Obj} (h : MSet M b o o' M') : (b, o) ∈ M := by
  obtain ⟨A, B, rfl, rfl⟩ := h.split; simp
theorem St.mset {g : Gl} {w w' : World} {D : Dict} {M M' : MList} {b : Nat} {o o' : Obj} (h : St g w D M) (hm : MSet M b o o' M')
    (hos : w'.os = w.os) (hout : w'.output = w.output) (htape : w'.tape = w.tape) (hdrw : w.drawn ≤ w'.drawn) (hb : w'.heap[b]? = some o') (hr : ∀ c, c ≠ b → w'.heap[c]? = w.heap[c]?) : St g w' D M' := by
  obtain ⟨A, B, rfl, rfl⟩ := hm.split
  have h1 : St g w D ((b, o) :: (A ++ B)) := h.perm List.perm_middle.symm
  exact (h1.set hos hout htape hdrw hb hr).perm List.perm_middle

section
variable {P : Program} {n : Nat} {Q : Exit → Act → World → Prop} {g : Gl} {k : List It} {e : Env} {D : Dict} {M : MList}
  {all : Array Oper} {rest : List Oper} {dst : Option Nat} {ty : TypeId} {pos : String} {af : Array Edge}

/-! ### 2. New variables -/
theorem Run.new {op : Op} (o : Obj) (hd : dstOk n dst = true) (V : Nat → Value)
    (hv : ∀ a, EnvOk n e a → ∀ w, St g w D M → (execOp a.eval ⟨dst, op, ty, pos, af, none⟩).run P w = .ok (.value (V w.heap.size)) { w with heap := w.heap.push o })
    (h : ∀ b, D b = none → Run P n Q g (.ops all rest :: k) (e.put dst (V b)) D ((b, o) :: M)) : Run P n Q g (.ops all (⟨dst, op, ty, pos, af, none⟩ :: rest) :: k) e D M :=
  Run.eff (fun v D' M' => ∃ b, D b = none ∧ v = V b ∧ D' = D ∧ M' = (b, o) :: M) hd
    (fun a he w hs => ⟨_, _, D, _, hv a he w hs, hs.alloc o, w.heap.size, (hs.alloc o).dis _ (List.mem_cons_self ..), rfl, rfl, rfl⟩)
    (fun v D' M' ⟨b, hb, h1, h2, h3⟩ => by subst h1; subst h2; subst h3; exact h b hb)
theorem Run.allocA {t : TypeId} {cs : List Value} (hz : ∀ w, (zeroValue t).run P w = .ok (.agg cs.toArray) w) (hd : dstOk n dst = true)
    (h : ∀ b, D b = none → Run P n Q g (.ops all rest :: k) (e.put dst (.pointer (some ⟨b, 0, none⟩))) D ((b, .cells cs.toArray t (0, 0)) :: M)) : Run P n Q g (.ops all (⟨dst, .alloc t, ty, pos, af, none⟩ :: rest) :: k) e D M :=
  Run.new _ hd (fun b => .pointer (some ⟨b, 0, none⟩)) (fun a he w hs => by
    simp [execOp, Instr.alloc, Sem.run_bind, hz, newVar, newRow, newObj, Sem.run, Value.cells]) h
theorem Run.alloc1 {t : TypeId} {z : Value} (hz : ∀ w, (zeroValue t).run P w = .ok z w) (h1 : z.cells = #[z]) (hd : dstOk n dst = true)
    (h : ∀ b, D b = none → Run P n Q g (.ops all rest :: k) (e.put dst (.pointer (some ⟨b, 0, none⟩))) D ((b, .cells #[z] t (0, 0)) :: M)) : Run P n Q g (.ops all (⟨dst, .alloc t, ty, pos, af, none⟩ :: rest) :: k) e D M :=
  Run.new _ hd (fun b => .pointer (some ⟨b, 0, none⟩)) (fun a he w hs => by
    simp [execOp, Instr.alloc, Sem.run_bind, hz, newVar, newRow, newObj, Sem.run, h1]) h
theorem Run.boxA {t : TypeId} {x : Operand} {cs : List Value} (hx : e.ev x = some (.agg cs.toArray)) (hd : dstOk n dst = true)
    (h : ∀ b, D b = none → Run P n Q g (.ops all rest :: k) (e.put dst (.pointer (some ⟨b, 0, none⟩))) D ((b, .cells cs.toArray t (0, 0)) :: M)) : Run P n Q g (.ops all (⟨dst, .box t x, ty, pos, af, none⟩ :: rest) :: k) e D M :=
  Run.new _ hd (fun b => .pointer (some ⟨b, 0, none⟩)) (fun a he w hs => by
    simp [execOp, he.ev hx, Instr.box, Sem.run_bind, newVar, newRow, newObj, Sem.run, Value.cells]) h
theorem Run.box1 {t : TypeId} {x : Operand} {v : Value} (hx : e.ev x = some v) (h1 : v.cells = #[v]) (hd : dstOk n dst = true)
    (h : ∀ b, D b = none → Run P n Q g (.ops all rest :: k) (e.put dst (.pointer (some ⟨b, 0, none⟩))) D ((b, .cells #[v] t (0, 0)) :: M)) : Run P n Q g (.ops all (⟨dst, .box t x, ty, pos, af, none⟩ :: rest) :: k) e D M :=
  Run.new _ hd (fun b => .pointer (some ⟨b, 0, none⟩)) (fun a he w hs => by
    simp [execOp, he.ev hx, Instr.box, Sem.run_bind, newVar, newRow, newObj, Sem.run, h1]) h
theorem Run.makeMap {t : TypeId} (hd : dstOk n dst = true)
    (h : ∀ b, D b = none → Run P n Q g (.ops all rest :: k) (e.put dst (.map (some b))) D ((b, .map #[] 0) :: M)) : Run P n Q g (.ops all (⟨dst, .makeMap t none, ty, pos, af, none⟩ :: rest) :: k) e D M :=
  Run.new _ hd (fun b => .map (some b)) (fun a he w hs => by
    simp [execOp, Instr.makeMap, Sem.run_bind, newObj, Sem.run]) h

/-! ### 3. Structs by value -/
/-- parts laid over cells -/
def fillN : List (Nat × Nat) → List Value → List (Nat × List Value) → Option (List Value)
  | _, cs, [] => some cs
  | pl, cs, (i, vs) :: r => match pl[i]? with
    | none => none
    | some (off, sz) => match Nat.beq vs.length sz with
      | false => none
      | true => match layN off cs vs with
        | none => none
        | some cs' => fillN pl cs' r
def partCells (e : Env) : List (Nat × Operand) → Option (List (Nat × List Value))
  | [] => some []
  | (i, x) :: r => match e.ev x with
    | none => none
    | some v => match partCells e r with
      | none => none
      | some l => some ((i, v.cells.toList) :: l)
theorem foldl_lay (off : Nat) : ∀ (vs : List Value) (j : Nat) (cs : List Value), off + j + vs.length ≤ cs.length →
    (vs.zipIdx j).foldl (fun (cs : Array Value) (p : Value × Nat) => cs.setIfInBounds (off + p.2) p.1) cs.toArray = (cs.take (off + j) ++ vs ++ cs.drop (off + j + vs.length)).toArray
  | [], j, cs, _ => by simp
  | v :: vs, j, cs, h => by
    simp only [List.zipIdx_cons, List.foldl_cons, List.setIfInBounds_toArray]
    rw [foldl_lay off vs (j + 1) (cs.set (off + j) v) (by simp at h ⊢; omega)]
    congr 1
    have := list_seg_step cs (off + j) v vs (by simp at h; omega)
    simpa [Nat.add_assoc] using this
theorem fill_eq {e : Env} {a : Act} (he : EnvOk n e a) (pl : List (Nat × Nat)) : ∀ (ps : List (Nat × Operand)) (cs : List Value) (l : List (Nat × List Value)) (cs' : List Value),
    partCells e ps = some l → fillN pl cs l = some cs' → Instr.fill (pl[·]?) cs.toArray (ps.map fun (i, x) => (i, a.eval x)) = some cs'.toArray
  | [], cs, l, cs', hp, hf => by
    simp [partCells] at hp
    subst hp
    simp [fillN] at hf
    subst hf
    rfl
  | (i, x) :: ps, cs, l, cs', hp, hf => by
    unfold partCells at hp
    split at hp
    · cases hp
    · rename_i v hv
      split at hp
      · cases hp
      · rename_i l0 hl0
        injection hp with hp
        subst hp
        unfold fillN at hf
        split at hf
        · cases hf
        · rename_i off sz hpl
          split at hf
          · cases hf
          · rename_i hb
            split at hf
            · cases hf
            · rename_i cs1 hcs1
              have hlen : v.cells.toList.length = sz := Nat.eq_of_beq_eq_true hb
              obtain ⟨h1, h2⟩ := layN_spec hcs1
              simp only [List.map_cons, Instr.fill, hpl, he.ev hv]
              have hsz : v.cells.size = sz := by simpa using hlen
              have h2' : off + v.cells.size ≤ cs.length := by simpa using h2
              rw [if_neg (by simp [hsz]; omega)]
              have hfold : (v.cells.zipIdx.foldl (fun (cs : Array Value) (p : Value × Nat) => cs.setIfInBounds (off + p.2) p.1) cs.toArray) = cs1.toArray := by
                rw [← Array.foldl_toList, Array.toList_zipIdx]
                rw [foldl_lay off v.cells.toList 0 cs (by simpa using h2), h1]; rfl
              have := fill_eq he pl ps cs1 l0 cs' hl0 hf
              rw [← hfold] at this
              exact this
/-- where a struct's fields lie -/
def Places (P : Program) (t : TypeId) (pl : List (Nat × Nat)) : Prop :=
  ∃ fs, (∀ w, (underlying t).run P w = .ok (.struct fs) w) ∧ ∀ w, Sem.run P (fs.mapM fun (f : Field) => do pure (f.offset, ← sizeOf f.type)) w = .ok pl.toArray w
theorem Run.build {t : TypeId} {ps : List (Nat × Operand)} {zs cs : List Value} {pl : List (Nat × Nat)} {l : List (Nat × List Value)} (hz : ∀ w, (zeroValue t).run P w = .ok (.agg zs.toArray) w) (hp : Places P t pl)
    (hl : partCells e ps = some l) (hf : fillN pl zs l = some cs) (hd : dstOk n dst = true)
    (h : Run P n Q g (.ops all rest :: k) (e.put dst (.agg cs.toArray)) D M) : Run P n Q g (.ops all (⟨dst, .build t ps.toArray, ty, pos, af, none⟩ :: rest) :: k) e D M :=
  Run.val _ hd (fun a he w hs => by
    obtain ⟨fs, hu, hm⟩ := hp
    have := fill_eq he pl ps zs l cs hl hf
    simp only [execOp, Instr.build, Sem.run_bind, hz, hu, hm, Result.andThen_ok, Value.cells, List.map_toArray, List.getElem?_toArray]
    simp only [this]
    rfl) h
def reps (len : Nat) (zc : List Value) : List Value := (List.replicate len zc).flatten
theorem reps_eq (len : Nat) (c : Array Value) (zc : List Value) (hc : c = zc.toArray) (h0 : len * zc.length ≠ 0) : (Array.range (len * zc.length)).map (c[· % c.size]!) = (reps len zc).toArray := by
  subst hc
  have hpos : 0 < zc.length := Nat.pos_of_ne_zero (fun h => h0 (by rw [h, Nat.mul_zero]))
  apply Array.ext'
  apply List.ext_getElem?
  intro i
  have hlen : (reps len zc).length = len * zc.length := by simp [reps]
  rcases Nat.lt_or_ge i (len * zc.length) with hi | hi
  · have hm : i % zc.length < zc.length := Nat.mod_lt _ hpos
    have : (reps len zc)[i]? = zc[i % zc.length]? := by
      unfold reps
      clear hlen h0
      induction len generalizing i with
      | zero => omega
      | succ m ih =>
        rw [List.replicate_succ, List.flatten_cons, List.getElem?_append]
        split
        · rename_i h; rw [Nat.mod_eq_of_lt h]
        · rename_i h
          rw [ih (i - zc.length) (by rw [Nat.succ_mul] at hi; omega) (Nat.mod_lt _ hpos), ← Nat.mod_eq_sub_mod (by omega)]
    simp [Array.toList_map, this, hi, List.getElem?_range hi, List.getElem?_eq_getElem hm, getElem!_pos, hm]
  · rw [List.getElem?_eq_none (by simpa using hi), List.getElem?_eq_none (by simp only [hlen]; exact hi)]
theorem fill_range (len sz : Nat) : ∀ (qs : List (Nat × Value)) (cur : Array Value), (∀ q ∈ qs, q.1 < len) → Instr.fill (fun i => some (i * sz, sz)) cur qs = Instr.fill (((List.range len).map fun i => (i * sz, sz))[·]?) cur qs
  | [], cur, _ => rfl
  | q :: qs, cur, hq => by
    have hq1 : q.1 < len := hq q (List.mem_cons_self ..)
    have hg : ((List.range len).map fun i => (i * sz, sz))[q.1]? = some (q.1 * sz, sz) := by simp [List.getElem?_range hq1]
    obtain ⟨i, v⟩ := q
    simp only at hg
    unfold Instr.fill
    rw [hg]
    simp only
    split
    · rfl
    · exact fill_range len sz qs _ (fun q' hq' => hq q' (List.mem_cons_of_mem _ hq'))
theorem partCells_mem {e : Env} : ∀ {ps : List (Nat × Operand)} {l : List (Nat × List Value)}, partCells e ps = some l → ∀ p ∈ ps, ∃ p' ∈ l, p'.1 = p.1
  | [], _, _, p, hp => by cases hp
  | (i, x) :: ps, l, hl, p, hp => by
    unfold partCells at hl
    split at hl
    · cases hl
    · split at hl
      · cases hl
      · rename_i l0 hl0
        injection hl with hl
        subst hl
        rcases List.mem_cons.1 hp with rfl | hp
        · exact ⟨_, List.mem_cons_self .., rfl⟩
        · obtain ⟨p', h1, h2⟩ := partCells_mem hl0 p hp
          exact ⟨p', List.mem_cons_of_mem _ h1, h2⟩
theorem Run.buildSlice {t el : TypeId} {ps : List (Nat × Operand)} {zc cs : List Value} {len : Nat} {l : List (Nat × List Value)} (hu : ∀ w, (underlying t).run P w = .ok (.slice el) w) (hsz : ∀ w, (sizeOf el).run P w = .ok zc.length w)
    {z : Value} (hz : ∀ w, (zeroValue el).run P w = .ok z w) (hzs : z.cells = zc.toArray) (h24 : len * zc.length ≤ 2 ^ 24) (hne : len * zc.length ≠ 0)
    (hl : partCells e ps = some l) (hf : fillN ((List.range len).map fun i => (i * zc.length, zc.length)) (reps len zc) l = some cs) (hd : dstOk n dst = true) (hlt : ∀ p ∈ l, p.1 < len)
    (h : ∀ b, D b = none → Run P n Q g (.ops all rest :: k) (e.put dst (.slice (some ⟨b, 0, none⟩) len len)) D ((b, .cells cs.toArray el (0, 0)) :: M)) : Run P n Q g (.ops all (⟨dst, .buildSlice t len ps.toArray, ty, pos, af, none⟩ :: rest) :: k) e D M :=
  Run.new _ hd (fun b => .slice (some ⟨b, 0, none⟩) len len) (fun a he w hs => by
    have h1 := fill_eq he _ ps (reps len zc) l cs hl hf
    have h2 : Instr.fill (fun i => some (i * zc.length, zc.length)) (reps len zc).toArray (ps.map fun (i, x) => (i, a.eval x)) = some cs.toArray := by
      rw [← h1]
      refine fill_range len zc.length _ _ fun q hq => ?_
      obtain ⟨p, hp, rfl⟩ := List.mem_map.1 hq
      obtain ⟨p', h3, h4⟩ := partCells_mem hl p hp
      have := hlt p' h3
      simp only
      omega
    have h3 := reps_eq len z.cells zc hzs hne
    simp only [execOp, Instr.buildSlice, Sem.run_bind, hu, hsz, Result.andThen_ok, List.map_toArray]
    rw [if_neg (by omega)]
    simp only [if_neg hne, Sem.run_bind, hz, Result.andThen_ok, pure, Sem.run]
    rw [h3]
    simp only [h2, newRow, newObj, bind, Sem.bind, Sem.run, pure, Result.andThen]) h
/-- a field of a struct by value -/
theorem Run.field1 {t : TypeId} {x : Operand} {i : Nat} {fs : Array Field} {f : Field} {cs : List Value} {v : Value} (hu : ∀ w, (underlying t).run P w = .ok (.struct fs) w) (hf : fs[i]? = some f)
    (hA : ∀ w, (isAgg f.type).run P w = .ok false w) (hx : e.ev x = some (.agg cs.toArray)) (hc : cs[f.offset]? = some v) (hd : dstOk n dst = true)
    (h : Run P n Q g (.ops all rest :: k) (e.put dst v) D M) : Run P n Q g (.ops all (⟨dst, .field t x i, ty, pos, af, none⟩ :: rest) :: k) e D M :=
  Run.val _ hd (fun a he w hs => by
    simp only [execOp, Instr.field, Sem.run_bind, hu, Result.andThen_ok, he.ev hx, hf, asAgg, pure, Sem.run, part, hA, Bool.false_eq_true, if_false, List.getElem?_toArray, hc]) h
theorem Run.fieldA {t : TypeId} {x : Operand} {i sz : Nat} {fs : Array Field} {f : Field} {cs vs : List Value} (hu : ∀ w, (underlying t).run P w = .ok (.struct fs) w) (hf : fs[i]? = some f)
    (hA : ∀ w, (isAgg f.type).run P w = .ok true w) (hS : ∀ w, (sizeOf f.type).run P w = .ok sz w) (hx : e.ev x = some (.agg cs.toArray)) (hc : takeN f.offset sz cs = some vs) (hd : dstOk n dst = true)
    (h : Run P n Q g (.ops all rest :: k) (e.put dst (.agg vs.toArray)) D M) : Run P n Q g (.ops all (⟨dst, .field t x i, ty, pos, af, none⟩ :: rest) :: k) e D M :=
  Run.val _ hd (fun a he w hs => by
    have hex : cs.toArray.extract f.offset (f.offset + sz) = vs.toArray := by
      obtain ⟨h1, h2⟩ := takeN_spec hc
      apply Array.ext'
      simp only [List.extract_toArray, List.extract_eq_take_drop]
      rw [Nat.add_sub_cancel_left]
      apply List.ext_getElem?
      intro j
      rw [List.getElem?_take]
      split
      · rename_i hj; rw [List.getElem?_drop]; exact h2 j hj
      · rename_i hj; rw [List.getElem?_eq_none (by omega)]
    simp only [execOp, Instr.field, Sem.run_bind, hu, Result.andThen_ok, he.ev hx, hf, asAgg, pure, Sem.run, part, hA, if_true, hS, hex]) h

/-! ### 4. Addresses, loads, stores -/
theorem Run.fieldAddr {t : TypeId} {x : Operand} {i b off sz : Nat} {fs : Array Field} {f : Field} (hu : ∀ w, (underlying t).run P w = .ok (.struct fs) w) (hf : fs[i]? = some f)
    (hS : ∀ w, (sizeOf f.type).run P w = .ok sz w) (h0 : sz ≠ 0) (hx : e.ev x = some (.pointer (some ⟨b, off, none⟩))) (hd : dstOk n dst = true)
    (h : Run P n Q g (.ops all rest :: k) (e.put dst (.pointer (some ⟨b, off + f.offset, none⟩))) D M) : Run P n Q g (.ops all (⟨dst, .fieldAddr t x i, ty, pos, af, none⟩ :: rest) :: k) e D M :=
  Run.val _ hd (fun a he w hs => by
    simp only [execOp, Instr.fieldAt, Sem.run_bind, hu, Result.andThen_ok, he.ev hx, hf, Instr.sureAddr, pure, Sem.run, fieldPlace, hS, if_neg h0, add_plain]) h
theorem Run.load1 {t : TypeId} {x : Operand} {b off : Nat} {v : Value} (hA : ∀ w, (isAgg t).run P w = .ok false w) (hx : e.ev x = some (.pointer (some ⟨b, off, none⟩))) (hc : Cs D M b off [v]) (hd : dstOk n dst = true)
    (h : Run P n Q g (.ops all rest :: k) (e.put dst v) D M) : Run P n Q g (.ops all (⟨dst, .load t x, ty, pos, af, none⟩ :: rest) :: k) e D M :=
  Run.val _ hd (fun a he w hs => by
    have h0 := hc.cell hs 0 v rfl
    rw [add_plain, Nat.add_zero] at h0
    simp only [execOp, Instr.loadAt, Sem.run_bind, he.ev hx, Instr.sureAddr, pure, Sem.run, loadVar, hA, Result.andThen_ok, Bool.false_eq_true, if_false, load, h0]) h
theorem Run.loadA {t : TypeId} {x : Operand} {b off : Nat} {vs : List Value} (hA : ∀ w, (isAgg t).run P w = .ok true w) (hS : ∀ w, (sizeOf t).run P w = .ok vs.length w) (hx : e.ev x = some (.pointer (some ⟨b, off, none⟩))) (hc : Cs D M b off vs) (hd : dstOk n dst = true)
    (h : Run P n Q g (.ops all rest :: k) (e.put dst (.agg vs.toArray)) D M) : Run P n Q g (.ops all (⟨dst, .load t x, ty, pos, af, none⟩ :: rest) :: k) e D M :=
  Run.val _ hd (fun a he w hs => by
    have h0 := run_loadCells_list (P := P) w ⟨b, off, none⟩ vs (hc.cell hs)
    simp [execOp, Instr.loadAt, Sem.run_bind, he.ev hx, Instr.sureAddr, pure, Sem.run, loadVar, hA, hS, h0, Result.andThen]) h
theorem setRow_other (w : World) (g : Nat) (cs : Array Value) {i : Nat} (h : i ≠ g) : (w.setRow g cs).heap[i]? = w.heap[i]? := by
  simp [World.setRow, Array.getElem?_modify, Ne.symm h]
theorem Run.storeL {t : TypeId} {x y : Operand} {b off : Nat} {v : Value} {l l' : List Value} {T : TypeId} {M' : MList} (hS : ∀ w, (sizeOf t).run P w = .ok v.cells.size w) (hx : e.ev x = some (.pointer (some ⟨b, off, none⟩))) (hy : e.ev y = some v)
    (h1 : ∀ u ∈ v.cells.toList, u.oneCell' = true) (hl : layN off l v.cells.toList = some l') (hm : MSet M b (.cells l.toArray T (0, 0)) (.cells l'.toArray T (0, 0)) M') (hd : dstOk n dst = true)
    (h : Run P n Q g (.ops all rest :: k) (e.put dst undef) D M') : Run P n Q g (.ops all (⟨dst, .store t x y, ty, pos, af, none⟩ :: rest) :: k) e D M := by
  refine Run.skp (fun D' M'' => D' = D ∧ M'' = M') hd (fun a he w hs => ?_) (fun _ _ ⟨h2, h3⟩ => by subst h2; subst h3; exact h)
  have hb := hs.mt _ hm.mem
  obtain ⟨e1, e2⟩ := layN_spec hl
  have hst := run_storeCells_at P b off T v.cells.toList 0 l.toArray w hb (by simpa using e2) h1
  refine ⟨w.setRow b l'.toArray, D, M', ?_, hs.mset hm rfl rfl rfl (Nat.le_refl _) ?_ (fun c hc => setRow_other _ _ _ hc), rfl, rfl⟩
  · simp only [execOp, Instr.storeAt, Sem.run_bind, he.ev hx, he.ev hy, Instr.sureAddr, pure, Sem.run, Result.andThen_ok, storeVar, hS, ne_eq, not_true_eq_false, if_false, hst]
    simp [e1]
  · exact setRow_heap w b l.toArray l'.toArray T (0, 0) hb

/-! ### 5. Slices -/
/-- a slice that reads as n elements, their cells in a row; what it leads to never changes -/
def Sl (D : Dict) (sz : Nat) (v : Value) (n : Nat) (fl : List Value) : Prop :=
  fl.length = n * sz ∧ n ≤ maxLen ∧ ∃ A cap, v = .slice A n cap ∧ n ≤ cap ∧ (0 < n → ∃ b off c T fr, A = some ⟨b, off, none⟩ ∧ D b = some (.cells c T fr) ∧ ∀ j u, fl[j]? = some u → c[off + j]? = some u)
theorem Sl.mono {D D' : Dict} {sz n : Nat} {v : Value} {fl : List Value} (h : Sl D sz v n fl) (hD : Le D D') : Sl D' sz v n fl := by
  obtain ⟨h1, hn, A, cap, h2, h3, h4⟩ := h
  refine ⟨h1, hn, A, cap, h2, h3, fun hp => ?_⟩
  obtain ⟨b, off, c, T, fr, e1, e2, e3⟩ := h4 hp
  exact ⟨b, off, c, T, fr, e1, hD _ _ e2, e3⟩
theorem Sl.nil (D : Dict) (sz : Nat) : Sl D sz (.slice none 0 0) 0 [] := ⟨by simp, by simp [maxLen], none, 0, rfl, Nat.le_refl _, fun h => by omega⟩
/-- a row of the call's own: it may be written; what room it has -/
def Own (sz : Nat) (T : TypeId) (v : Value) (n : Nat) (fl : List Value) (m : MList) : Prop :=
  fl.length = n * sz ∧ ((v = .slice none 0 0 ∧ n = 0 ∧ m = []) ∨
    ∃ b cap cur, v = .slice (some ⟨b, 0, none⟩) n cap ∧ m = [(b, .cells cur T (0, 0))] ∧ n ≤ cap ∧ cap ≤ maxLen ∧ cur.size = cap * sz ∧ cur.toList.take (n * sz) = fl)
theorem Own.nil (sz : Nat) (T : TypeId) : Own sz T (.slice none 0 0) 0 [] [] := ⟨by simp, .inl ⟨rfl, rfl, rfl⟩⟩
theorem Own.lit {sz : Nat} {T : TypeId} {b len : Nat} {cs : List Value} (h : cs.length = len * sz) (hm : len ≤ maxLen) : Own sz T (.slice (some ⟨b, 0, none⟩) len len) len cs [(b, .cells cs.toArray T (0, 0))] :=
  ⟨h, .inr ⟨b, len, cs.toArray, rfl, rfl, Nat.le_refl _, hm, by simpa using h, by simp [← h]⟩⟩
theorem Own.row {sz : Nat} {T : TypeId} {v : Value} {n : Nat} {fl : List Value} {m M : MList} (h : Own sz T v n fl m) {w : World} (hs : St g w D (m ++ M)) : w.ownsRow 0 T sz v n fl := by
  refine ⟨h.1, ?_⟩
  rcases h.2 with ⟨h1, h2, h3⟩ | ⟨b, cap, cur, h1, h2, h3, h4, h5, h6⟩
  · exact .inl ⟨h1, h2⟩
  · subst h2
    exact .inr ⟨b, cap, cur, h1, Nat.zero_le _, hs.mt (b, _) (by simp), h3, h4, h5, h6⟩
theorem St.dropL {g : Gl} {w : World} {D : Dict} {m M : MList} (h : St g w D (m ++ M)) : St g w D M := h.sub (List.sublist_append_right m M)
/-- an append has carried a row on -/
theorem Own.after {sz : Nat} {T : TypeId} {v v' : Value} {n n' : Nat} {fl fl' : List Value} {m M : MList} (h : Own sz T v n fl m) {w w' : World} (hs : St g w D (m ++ M))
    (hr : w'.ownsRow 0 T sz v' n' fl') (hg : w.grownBy w' v.ownBlock) (hdrw : w.drawn ≤ w'.drawn) (hb : v'.ownBlock = v.ownBlock ∨ v'.ownBlock = some w.heap.size) : ∃ m', Own sz T v' n' fl' m' ∧ St g w' D (m' ++ M) := by
  have hold : St g w' D M := by
    refine ⟨hg.os.trans hs.os, hg.output.trans hs.out, hg.tape.trans hs.tape, fun b o hD => ?_, fun p hp => ?_, hs.dropL.nd, hs.dropL.dis, Nat.le_trans hs.drw hdrw⟩
    · rw [hg.block b (hs.lt hD) ?_]
      · exact hs.imm b o hD
      · intro he
        rcases h.2 with ⟨h1, h2, h3⟩ | ⟨b', cap, cur, h1, h2, _⟩
        · rw [h1] at he; cases he
        · rw [h1] at he
          injection he with he
          subst h2
          have := hs.dis (b', .cells cur T (0, 0)) (by simp)
          simp only at this
          rw [he] at hD
          simp only at hD
          rw [this] at hD; cases hD
    · have hp' : p ∈ m ++ M := List.mem_append_right _ hp
      rw [hg.block p.1 (hs.ltM hp') ?_]
      · exact hs.mt p hp'
      · intro he
        rcases h.2 with ⟨h1, h2, h3⟩ | ⟨b', cap, cur, h1, h2, _⟩
        · rw [h1] at he; cases he
        · rw [h1] at he
          injection he with he
          subst h2
          have := hs.nd
          simp only [List.cons_append, List.nil_append, List.map_cons, List.nodup_cons] at this
          exact this.1 (List.mem_map.2 ⟨p, hp, he⟩)
  rcases hr.2 with ⟨h1, h2⟩ | ⟨b, cap, cur, h1, _, h2, h3, h4, h5, h6⟩
  · exact ⟨[], ⟨hr.1, .inl ⟨h1, h2, rfl⟩⟩, hold⟩
  · refine ⟨[(b, .cells cur T (0, 0))], ⟨hr.1, .inr ⟨b, cap, cur, h1, rfl, h3, h4, h5, h6⟩⟩, ?_⟩
    have hbk : v'.ownBlock = some b := by rw [h1]; rfl
    have hbD : D b = none ∧ ∀ p ∈ M, p.1 ≠ b := by
      rcases hb with hb | hb
      · rw [hbk] at hb
        rcases h.2 with ⟨e1, _⟩ | ⟨b', cap', cur', e1, e2, _⟩
        · rw [e1] at hb; cases hb
        · rw [e1] at hb
          injection hb with hb
          simp only at hb
          subst hb
          subst e2
          refine ⟨hs.dis (b, .cells cur' T (0, 0)) (by simp), fun p hp he => ?_⟩
          have := hs.nd
          simp only [List.cons_append, List.nil_append, List.map_cons, List.nodup_cons] at this
          exact this.1 (List.mem_map.2 ⟨p, hp, he⟩)
      · rw [hbk] at hb
        injection hb with hb
        subst hb
        refine ⟨?_, fun p hp he => ?_⟩
        · cases hD : D w.heap.size with
          | none => rfl
          | some o => have := hs.lt hD; omega
        · have := hs.dropL.ltM hp; omega
    refine ⟨hold.os, hold.out, hold.tape, hold.imm, fun p hp => ?_, ?_, fun p hp => ?_, hold.drw⟩
    · rcases List.mem_cons.1 hp with rfl | hp
      · exact h2
      · exact hold.mt p hp
    · simp only [List.cons_append, List.nil_append, List.map_cons, List.nodup_cons]
      exact ⟨fun hm => by obtain ⟨p, hp, he⟩ := List.mem_map.1 hm; exact hbD.2 p hp he, hold.nd⟩
    · rcases List.mem_cons.1 hp with rfl | hp
      · exact hbD.1
      · exact hold.dis p hp
/-- what the call owned is never written again -/
theorem Own.freeze {sz : Nat} {T : TypeId} {v : Value} {n : Nat} {fl : List Value} {m : MList} (h : Own sz T v n fl m) (hm : n ≤ maxLen) : ∃ D', (∀ g w M, St g w D (m ++ M) → St g w D' M ∧ Le D D') ∧ Sl D' sz v n fl := by
  rcases h.2 with ⟨h1, h2, h3⟩ | ⟨b, cap, cur, h1, h2, h3, h4, h5, h6⟩
  · subst h3; subst h2; subst h1
    have : fl = [] := List.eq_nil_of_length_eq_zero (by simpa using h.1)
    subst this
    exact ⟨D, fun _ _ _ hs => ⟨hs, Le.rfl'⟩, Sl.nil D sz⟩
  · subst h2
    refine ⟨ins D b (.cells cur T (0, 0)), fun g w M hs => ⟨St.freeze hs, St.freeze_le hs⟩, h.1, hm, _, cap, h1, h3, fun hp => ⟨b, 0, cur, T, (0, 0), rfl, ins_same .., fun j u hu => ?_⟩⟩
    rw [← h6, List.getElem?_take] at hu
    split at hu
    · simpa using hu
    · cases hu
end
end Go.Proofs.Ytgdpjpmjcpieiaa
