/- From what came in to plain things; from a contract to the call. No condition. -/
import Derived.Test.YtgdpjpmjcpieiaaList
import Derived.Test.YtgdpjpmjcpieiaaTypes
import Derived.Test.YtgdpjpmjcpieiaaPure
import Derived.WalkKit
import Derived.ProofKit
import Derived.OpenShut
import Derived.ChangeOld
import Derived.Below
import Derived.Deep.Slices
import Derived.Sort.Grow
import Derived.Deep.Draws
namespace Go.Proofs.Ytgdpjpmjcpieiaa
open Go Go.ChangeShapes Go.WideShapes Go.ChangeAt Go.RowKit
set_option linter.unusedVariables false
set_option linter.unusedSimpArgs false
/-- all that lies there -/
def All (w : World) : Dict := fun b => w.heap[b]?
def glOf (w : World) : Gl := ⟨w.os, w.output, w.tape, w.drawn⟩
theorem St.all (w : World) : St (glOf w) w (All w) [] := ⟨rfl, rfl, rfl, fun _ _ h => h, (fun p hp => by cases hp), List.nodup_nil, fun p hp => (by cases hp), Nat.le_refl _⟩
theorem St.below {w w' : World} {M : MList} (h : St (glOf w) w' (All w) M) : Below w.heap.size w w' := by
  have hs : w.heap.size ≤ w'.heap.size := by
    rcases Nat.eq_zero_or_pos w.heap.size with h0 | h0
    · omega
    · have h1 := h.imm (w.heap.size - 1) (w.heap[w.heap.size - 1]'(by omega)) (by simp [All])
      have := (Array.getElem?_eq_some_iff.1 h1).1
      omega
  exact ⟨h.os, h.tape, h.out, hs, fun k hk => by
    have h1 := h.imm k w.heap[k] (by simp [All, hk])
    rw [h1]; simp [hk]⟩
theorem Gives.calls {P : Program} {f : FuncId} {vs : List Value} {v : Value} {w : World} (h : Gives P (glOf w) f vs (All w) [] v) : Calls P f vs.toArray w fun e w' => e = .returned v ∧ Below w.heap.size w w' :=
  (h w (St.all w)).mono fun e w' ⟨v', D', M', h1, h2, h3, h4, h5⟩ => by subst h3; subst h4; subst h5; exact ⟨h1, h2.below⟩
/-- .. and what is new lies behind -/
theorem Gives.grown {P : Program} {f : FuncId} {vs : List Value} {v : Value} {w : World} (h : Gives P (glOf w) f vs (All w) [] v) : Calls P f vs.toArray w fun e w' => e = .returned v ∧ ∃ q os', w' = Sort.grow (World.drewN w q) os' :=
  (h w (St.all w)).mono fun e w' ⟨v', D', M', h1, h2, h3, h4, h5⟩ => by
    subst h3; subst h4; subst h5
    refine ⟨h1, w'.drawn - w.drawn, w'.heap.extract w.heap.size w'.heap.size, ?_⟩
    have hb := h2.below
    have hd : w.drawn ≤ w'.drawn := h2.drw
    have hh : w'.heap = w.heap ++ w'.heap.extract w.heap.size w'.heap.size := by
      apply Array.ext_getElem?
      intro k
      by_cases hk : k < w.heap.size
      · rw [Array.getElem?_append_left hk]; exact hb.block k hk
      · rw [Array.getElem?_append_right (by omega), Array.getElem?_extract]
        have := hb.size
        by_cases hk2 : k < w'.heap.size
        · simp only [Nat.min_self]
          rw [if_pos (by omega)]
          congr 1; omega
        · simp only [Nat.min_self]
          rw [if_neg (by omega), Array.getElem?_eq_none (by omega)]
    unfold Sort.grow World.drewN
    have e1 : w.drawn + (w'.drawn - w.drawn) = w'.drawn := by omega
    simp only [e1, ← hh]
    have h6 : w'.os = w.os := h2.os
    have h7 : w'.output = w.output := h2.out
    have h8 : w'.tape = w.tape := h2.tape
    rw [← h6, ← h7, ← h8]
def inI (n : Int) : Prop := -9223372036854775808 ≤ n ∧ n ≤ 9223372036854775807
theorem inI_wf {n : Int} (h : (Lit.int .i64 n).wf = true) : inI n := by
  have h1 : IntKind.i64.min = -9223372036854775808 := rfl
  have h2 : IntKind.i64.max = 9223372036854775807 := rfl
  simp [Lit.wf, h1, h2] at h
  exact h
theorem arr_of {a : Array Value} {l : List Value} (h : a.toList = l) : a = l.toArray := by rw [← h]
/-- cells that read as type t meet R -/
def Rds (P : Program) (w : World) (t : TypeId) (R : List Value → Prop) : Prop := ∀ (H : Type) (enc : TypeId × Value → H) (fuel : Nat) (cs : List Value) (x : DataW H × List MemPlace), DataW.trod enc P w 0 (fun _ => true) true fuel t cs = some x → R cs
section
variable {P : Program} {w : World} {t : TypeId}
theorem Rds.mono {R R' : List Value → Prop} (h : Rds P w t R) (hR : ∀ cs, R cs → R' cs) : Rds P w t R' := fun H enc fuel cs x hx => hR cs (h H enc fuel cs x hx)
theorem Rds.int (ht : P.underlying t = some (.int .i64)) : Rds P w t fun cs => ∃ n, cs = [.int .i64 n] ∧ inI n := fun H enc fuel cs x hx => by
  obtain ⟨n, h1, _, h2⟩ := DataW.trod_int ht hx
  exact ⟨n, h1, inI_wf h2⟩
theorem Rds.bool (ht : P.underlying t = some .bool) : Rds P w t fun cs => ∃ b, cs = [.bool b] := fun H enc fuel cs x hx => by
  obtain ⟨n, h1, _⟩ := DataW.trod_bool ht hx
  exact ⟨n, h1⟩
/-- field after field -/
def Parts (P : Program) (w : World) (cs : List Value) : List Field → List (List Value → Prop) → Prop
  | [], [] => True
  | f :: fs, R :: Rs => R ((cs.drop f.offset).take (P.cellsOf f.type)) ∧ Parts P w cs fs Rs
  | _, _ => False
def RdsAll (P : Program) (w : World) : List Field → List (List Value → Prop) → Prop
  | [], [] => True
  | f :: fs, R :: Rs => Rds P w f.type R ∧ RdsAll P w fs Rs
  | _, _ => False
theorem Rds.struct {fs : Array Field} (ht : P.underlying t = some (.struct fs)) {Rs : List (List Value → Prop)} (h : RdsAll P w fs.toList Rs) : Rds P w t fun cs => cs.length = P.cellsOf t ∧ Parts P w cs fs.toList Rs := fun H enc fuel cs x hx => by
  obtain ⟨xs, n, _, _, h1, h2, h3⟩ := DataW.trod_struct ht hx
  refine ⟨h1, ?_⟩
  have key : ∀ (l : List Field) (Rs : List (List Value → Prop)) (ys : List (DataW H × List MemPlace)), ys.length = l.length → RdsAll P w l Rs → (∀ (i : Nat) (f : Field), l[i]? = some f → DataW.trod enc P w 0 (fun _ => true) true n f.type ((cs.drop f.offset).take (P.cellsOf f.type)) = ys[i]?) → Parts P w cs l Rs := by
    intro l
    induction l with
    | nil => intro Rs ys _ hR _; cases Rs <;> simp_all [RdsAll, Parts]
    | cons f l ih =>
      intro Rs ys hl hR hf
      cases Rs with
      | nil => simp [RdsAll] at hR
      | cons R Rs =>
        cases ys with
        | nil => simp at hl
        | cons y ys =>
          refine ⟨hR.1 H enc n _ y (by simpa using hf 0 f rfl), ih Rs ys (by simpa using hl) hR.2 fun i f' hf' => by simpa using hf (i + 1) f' (by simpa using hf')⟩
  refine key fs.toList Rs xs (by simpa using h2) h fun i f hf => h3 i f (by simpa using hf)
theorem Rds.slice {α : Type} [Inhabited α] {e : TypeId} {sz : Nat} (ht : P.underlying t = some (.slice e)) (hsz : P.cellsOf e = sz) (h0 : 0 < sz) (cells : α → List Value) (hlen : ∀ x, (cells x).length = sz) (q : α → Prop) (he : Rds P w e fun cs => ∃ y, cs = cells y ∧ q y) :
    Rds P w t fun cs => ∃ v ys, cs = [v] ∧ Lst (All w) sz cells v ys ∧ ∀ y ∈ ys, q y := fun H enc fuel cs x hx => by
  rcases Deep.open_slice ht hx with ⟨h1, _⟩ | ⟨a, len, cap, m, n, D, Pl, h1, _, h3, h4, h5, _, h6⟩
  · exact ⟨_, [], h1, Lst.nil _ _ _, fun y hy => by cases hy⟩
  · simp only [if_true] at h5
    subst h5
    obtain ⟨f, hf⟩ := Deep.choose_lt (α := α) (n := len) (p := fun i y => w.cells? 0 (a.add (i * P.cellsOf e)) (P.cellsOf e) = some (cells y) ∧ q y) (fun i hi => by
      obtain ⟨cs', e1, e2⟩ := h6 i (by omega)
      obtain ⟨y, e3, e4⟩ := he H enc n cs' _ e2
      exact ⟨y, by rw [e1, e3], e4⟩)
    refine ⟨_, (List.range len).map f, h1, ?_, fun y hy => ?_⟩
    · have hl : ((List.range len).map f).length = len := by simp
      have hget : ∀ i, i < len → ((List.range len).map f)[i]? = some (f i) := fun i hi => by simp [hi]
      refine ⟨by rw [flat_len hlen], by rw [hl]; omega, some a, m, by rw [hl], by rw [hl]; exact h3, fun hp => ?_⟩
      rw [hl] at hp
      have hcell : ∀ i k, i < len → k < sz → w.cell? (a.add (i * sz + k)) = (cells (f i))[k]? := fun i k hi hk => by
        obtain ⟨_, _, e3⟩ := World.cells?_some (hf i hi).1
        rw [hsz] at e3
        have := e3 k hk
        rwa [Deep.add_add] at this
      have hsp : a.spot = none := by
        have h7 := hcell 0 0 hp h0
        have hk : 0 < (cells (f 0)).length := by rw [hlen]; exact h0
        rw [List.getElem?_eq_getElem hk] at h7
        simpa [Addr.add] using World.cell?_spot h7
      obtain ⟨b, off, sp⟩ := a
      simp only at hsp
      subst hsp
      have hc0 := hcell 0 0 hp h0
      have hk0 : 0 < (cells (f 0)).length := by rw [hlen]; exact h0
      rw [List.getElem?_eq_getElem hk0] at hc0
      have hblk : ∃ c T fr, w.heap[b]? = some (.cells c T fr) := by
        unfold World.cell? at hc0
        rw [add_plain] at hc0
        simp only at hc0
        split at hc0
        · rename_i c T fr hb; exact ⟨c, T, fr, hb⟩
        all_goals cases hc0
      obtain ⟨c, T, fr, hb⟩ := hblk
      refine ⟨b, off, c, T, fr, rfl, hb, fun j u hu => ?_⟩
      have hj : j < len * sz := by
        rcases Nat.lt_or_ge j (((List.range len).map f).flatMap cells).length with h | h
        · rw [flat_len hlen, hl] at h; exact h
        · rw [List.getElem?_eq_none h] at hu; cases hu
      have hji : j / sz < len := Nat.div_lt_of_lt_mul (by rw [Nat.mul_comm]; exact hj)
      have hjk : j % sz < sz := Nat.mod_lt _ h0
      have hdm : j / sz * sz + j % sz = j := Nat.div_add_mod' j sz
      have h8 := hcell (j / sz) (j % sz) hji hjk
      rw [hdm, add_plain] at h8
      have h9 := flat_at hlen ((List.range len).map f) (j / sz) (j % sz) (f (j / sz)) (hget _ hji) hjk
      rw [hdm, hu] at h9
      rw [← h9] at h8
      simpa [World.cell?, hb] using h8
    · obtain ⟨i, hi, rfl⟩ := List.mem_map.1 hy
      exact (hf i (List.mem_range.1 hi)).2
end
end Go.Proofs.Ytgdpjpmjcpieiaa
