import Derived.WalkKit
import Derived.ProofKit
import Derived.OpenShut
import Derived.ChangeOld
import Derived.Below
import Derived.Deep.Slices
import Derived.Sort.Grow
import Derived.Deep.Draws
import Derived.Test.YtgdpjpmjcpieiaaGreatQ6
/- Views: set, drop, forget; a part of an element is written. No condition. -/
namespace Go.Proofs.YtgdpjpmjcpieiaaGreat
open Go
set_option linter.unusedVariables false
set_option linter.unusedSimpArgs false
set_option maxRecDepth 100000
set_option maxHeartbeats 0
theorem OL.setP {α : Type} {sz : Nat} {cells : α → List Value} {T : TypeId} {v : Value} {xs : List α} {q : MList} (h : OL sz cells T v xs q) (hc : ∀ x, (cells x).length = sz) {i b off : Nat} (hI : IxAt v i sz b off) {x : α} (hx : xs[i]? = some x) (z : α) (A B B' C : List Value) (hcx : cells x = A ++ B ++ C) (hcz : cells z = A ++ B' ++ C) (hB : B'.length = B.length) (R : MList) :
    ∃ l l' q', MSet (q ++ R) b (.cells l.toArray T (0, 0)) (.cells l'.toArray T (0, 0)) (q' ++ R) ∧ layN (off + A.length) l B' = some l' ∧ OL sz cells T v (xs.set i z) q' := by
  obtain ⟨o0, l0, c0, rfl, hi, rfl⟩ := hI
  rcases h.2 with ⟨h1, h2, h3⟩ | ⟨b', cap, cur, h1, h2, h3, h4, h5, h6⟩
  · cases h1
  · injection h1 with e1 e2 e3
    injection e1 with e1
    injection e1 with e4 e5
    subst e4; subst e5; subst e2; subst h2
    have e3' := e3.symm
    subst e3'
    have hxs : xs = xs.take i ++ x :: xs.drop (i + 1) := by
      have hg : xs[i] = x := by rw [List.getElem?_eq_getElem hi] at hx; injection hx
      rw [← hg]; simp
    have hPl : ((xs.take i).flatMap cells).length = i * sz := by rw [flat_len hc, List.length_take, Nat.min_eq_left (by omega)]
    have hcur : cur.toList = (xs.take i).flatMap cells ++ (cells x ++ ((xs.drop (i + 1)).flatMap cells ++ cur.toList.drop (xs.length * sz))) := by
      have h7 : xs.flatMap cells = (xs.take i).flatMap cells ++ (cells x ++ (xs.drop (i + 1)).flatMap cells) := by
        conv => lhs; rw [hxs]
        simp [List.flatMap_append]
      conv => lhs; rw [← List.take_append_drop (xs.length * sz) cur.toList, h6, h7]
      simp [List.append_assoc]
    generalize hS : (xs.drop (i + 1)).flatMap cells ++ cur.toList.drop (xs.length * sz) = S at hcur
    generalize hP : (xs.take i).flatMap cells = Pp at hcur hPl
    have hset : xs.set i z = xs.take i ++ z :: xs.drop (i + 1) := by rw [List.set_eq_take_append_cons_drop, if_pos hi]
    refine ⟨cur.toList, Pp ++ (cells z ++ S), [(b, .cells (Pp ++ (cells z ++ S)).toArray T (0, 0))], .here .., ?_, ?_⟩
    · have hl : 0 + i * sz + A.length + B'.length ≤ cur.toList.length := by
        rw [hcur, hcx]; simp only [List.length_append, hPl]; omega
      rw [layN_ok hl, hcur, hcx, hcz]
      have e6 : 0 + i * sz + A.length = (Pp ++ A).length := by rw [List.length_append, hPl]; omega
      have e7 : 0 + i * sz + A.length + B'.length = (Pp ++ A ++ B).length := by simp only [List.length_append, hPl]; omega
      rw [e7, e6]
      have e8 : Pp ++ (A ++ B ++ C ++ S) = (Pp ++ A) ++ (B ++ C ++ S) := by simp [List.append_assoc]
      have e9 : Pp ++ (A ++ B ++ C ++ S) = (Pp ++ A ++ B) ++ (C ++ S) := by simp [List.append_assoc]
      conv => lhs; arg 1; arg 1; rw [e8, List.take_left]
      conv => lhs; arg 1; arg 2; rw [e9, List.drop_left]
      simp [List.append_assoc]
    · refine ⟨by rw [flat_len hc], .inr ⟨b, cap, _, by simp, rfl, by simpa using h3, h4, ?_, ?_⟩⟩
      · have := congrArg List.length hcur
        rw [Array.length_toList, h5] at this
        simp only [List.length_append, hc] at this
        simp only [List.size_toArray, List.length_append, hc]; omega
      · rw [List.length_set, hset, List.flatMap_append, List.flatMap_cons, hP]
        rw [← hS]
        have e10 : Pp ++ (cells z ++ ((xs.drop (i + 1)).flatMap cells ++ cur.toList.drop (xs.length * sz))) = (Pp ++ (cells z ++ (xs.drop (i + 1)).flatMap cells)) ++ cur.toList.drop (xs.length * sz) := by simp [List.append_assoc]
        have e11 : (Pp ++ (cells z ++ (xs.drop (i + 1)).flatMap cells)).length = xs.length * sz := by
          simp only [List.length_append, hc, hPl, flat_len hc, List.length_drop]
          have e12 : xs.length = i + 1 + (xs.length - (i + 1)) := by omega
          have e13 := congrArg (· * sz) e12
          simp only [Nat.add_mul, Nat.one_mul] at e13
          omega
        rw [e10, ← e11]
        exact List.take_left
section
variable {P : Program} {n : Nat} {Q : Exit → Act → World → Prop} {g : Gl} {k : List It} {e : Env} {D : Dict} {M : MList}
  {all : Array Oper} {rest : List Oper} {dst : Option Nat} {ty : TypeId} {pos : String} {af : Array Edge}
/-- a part of an element is written -/
theorem R.sp' {α : Type} {sz sp : Nat} {cells : α → List Value} {T t : TypeId} {v : Value} {xs : List α} {q R : MList} {x y : Operand} {i b off off' : Nat} {u : Value} {xe : α} (z : α) (A B C : List Value) (ho : OL sz cells T v xs q) (hI : IxAt v i sz b off) (hxe : xs[i]? = some xe) (hc : ∀ x, (cells x).length = sz) (hS : ∀ w, (sizeOf t).run P w = .ok sp w)
    (h : ∀ q', OL sz cells T v (xs.set i z) q' → Run P n Q g (.ops all rest :: k) (e.put dst undef) D (q' ++ R)) (hcx : cells xe = A ++ B ++ C := by rfl) (hx : e.ev x = some (.pointer (some ⟨b, off', none⟩)) := by rfl) (hoff : off' = off + A.length := by rfl) (hy : e.ev y = some u := by rfl) (hcz : cells z = A ++ u.cells.toList ++ C := by rfl)
    (hB : u.cells.toList.length = B.length := by rfl) (hsp : u.cells.size = sp := by rfl) (h1 : u.cells.toList.all (·.oneCell') = true := by rfl) (hd : dstOk n dst = true := by rfl) : Run P n Q g (.ops all (⟨dst, .store t x y, ty, pos, af, none⟩ :: rest) :: k) e D (q ++ R) := by
  obtain ⟨l, l', q', hm, hl, ho'⟩ := ho.setP hc hI hxe z A B u.cells.toList C hcx hcz hB R
  subst hoff
  exact Run.storeL (hsp ▸ hS) hx hy (fun w hw => List.all_eq_true.1 h1 w hw) hl hm hd (h q' ho')
/-- s[i:], wherever i stands -/
theorem R.cutIf {t el : TypeId} {x lo : Operand} {A : Option Addr} {l c sz : Nat} {kd : IntKind} {j : Int} (i : Nat) (hu : ∀ w, (underlying t).run P w = .ok (.slice el) w) (hS : ∀ w, (sizeOf el).run P w = .ok sz w)
    (h : Run P n Q g (.ops all rest :: k) (e.put dst (.slice (if c = i then A else A.map (·.add (i * sz))) (l - i) (c - i))) D M)
    (hx : e.ev x = some (.slice A l c) := by rfl) (hi : e.ev lo = some (.int kd j) := by rfl) (hj : j = (i : Int) := by first | rfl | omega | (simp; done)) (h1 : i ≤ l := by omega) (hd : dstOk n dst = true := by rfl) :
    Run P n Q g (.ops all (⟨dst, .slice t x (some lo) none none, ty, pos, af, none⟩ :: rest) :: k) e D M := by
  subst hj
  exact Run.sliceLo hu hS hx hi h1 hd h
end
theorem cut_src {D : Dict} {q R : MList} {b c : Nat} {xs : List Vw} (i : Nat) (hO : VO (.slice (some ⟨b, 0, none⟩) xs.length c) xs q) (hc : xs.length ≤ c) : Src D (q ++ R) 7 (.slice (if c = i then some ⟨b, 0, none⟩ else (some ⟨b, 0, none⟩ : Option Addr).map (·.add (i * 7))) (xs.length - i) (c - i)) (xs.length - i) ((xs.drop i).flatMap Vw.cells) := by
  refine ⟨by rw [flat_len Vw.len, List.length_drop], _, _, rfl, fun hp => ?_⟩
  rw [if_neg (by omega)]
  refine ⟨b, 0 + i * 7, by simp [add_plain], Cs.drop Vw.len i (hO.cs (by omega)) rfl⟩
theorem delete_spec {g : Gl} {D : Dict} {q Z : MList} {v : Value} {xs : List Vw} (i : Nat) (hn : xs.length ≤ 1000) (hi : i < xs.length) (hO : VO v xs q) :
    Spec Tryz.prog g 99 [v, .int .i64 (i : Int), .int .i64 ((i : Int) + 1)] D (q ++ Z) (fun u D' M' => D' = D ∧ ∃ q', VO u (xs.take i ++ xs.drop (i + 1)) q' ∧ M' = q' ++ Z) := by
  obtain ⟨b, c, cur, rfl, _, hcap, hcm, _, _⟩ := hO.blk (by omega)
  refine Spec.enter Tryz.func99 rfl Tryz.ntmps99 rfl ?_; refine R.sq ?_; refine R.rg ?_; refine R.as ?_; refine R.nl ?_; refine R.hs (e' := [(0, _), (1, _), (2, _)]) ?_; refine R.sq ?_; refine R.rg ?_; refine R.mv ?_; refine R.mv ?_; refine R.mv ?_; refine R.mv ?_; refine R.ln Tryz.runUnderlying24 ?_; refine R.cut3 i (i + 1) xs.length Tryz.runUnderlying24 Tryz.sizeOf72 (fun _ => ?_); refine R.nl ?_; refine R.hs (e' := [(0, _), (1, _), (2, _)]) ?_; refine R.sq ?_; refine R.sq ?_; refine R.rg ?_; refine R.mv ?_; refine R.mv ?_; refine R.cm ?_; refine R.nl ?_; refine R.hs (e' := [(0, _), (1, _), (2, _), (16, _)]) ?_; refine R.cd (fun zc1 => ?_) (fun zc1 => ?_)
  ·
   exfalso; simp at zc1; omega 
  ·refine Run.skip ?_; refine R.sq ?_; refine R.rg ?_; refine R.mv ?_; refine R.ln Tryz.runUnderlying24 ?_; refine R.as ?_; refine R.nl ?_; refine R.hs (e' := [(0, _), (1, _), (2, _), (7, _)]) ?_; refine R.sq ?_; refine Run.drawC Grow.eq 6 [(0, _), (1, _), (2, _), (7, _)] mix (by kernel_rfl) (by repeat (first | exact trivial | refine ⟨rfl, ?_⟩)) ?_; apply TC.val []; exact rfl; kernel_rfl
   ·rintro _ rfl ; refine R.mv ?_; refine R.nl ?_; exact Run.loc rfl rfl rfl
   apply TC.val []; exact rfl; kernel_rfl
   ·rintro _ rfl ; refine R.mv ?_; refine R.nl ?_; exact Run.loc rfl rfl rfl
   apply TC.val [1, 0]; exact rfl; kernel_rfl
   ·rintro _ rfl _ rfl _ rfl; refine R.cutHi i Tryz.runUnderlying24 Tryz.sizeOf72 ?_; refine R.nl ?_; exact Run.loc rfl rfl rfl
   apply TC.val []; exact rfl; kernel_rfl
   ·rintro _ rfl ; refine R.mv ?_; refine R.nl ?_; exact Run.loc rfl rfl rfl
   apply TC.val []; exact rfl; kernel_rfl
   ·rintro _ rfl ; refine R.mv ?_; refine R.nl ?_; exact Run.loc rfl rfl rfl
   apply TC.val [1, 0]; exact rfl; kernel_rfl
   ·rintro _ rfl _ rfl _ rfl; refine R.cutIf (i + 1) Tryz.runUnderlying24 Tryz.sizeOf72 ?_; refine R.nl ?_; exact Run.loc rfl rfl rfl
   refine TC.fin (by rfl) ?_; rintro _ rfl _ rfl _ rfl _ rfl _ rfl _ rfl _ rfl; refine R.apRoom (sz := 7) i Tryz.underlying24 info72 rfl hO Vw.len (by decide) (by omega) (cut_src (i + 1) hO hcap) Vw.ones (by simp <;> omega) (by omega) (fun q1 hO1 => ?_)
   have e1 : i + (xs.drop (i + 1)).length = xs.length - 1 := by rw [List.length_drop]; omega
   rw [e1] at hO1 ⊢
   refine R.as ?_; refine R.nl ?_; refine R.hs (e' := [(0, _), (7, _)]) ?_; refine R.sq ?_; refine R.rg ?_; refine R.mv ?_; refine R.mv ?_; refine R.ln Tryz.runUnderlying24 ?_; refine R.mv ?_; refine R.cut (xs.length - 1) xs.length Tryz.runUnderlying24 Tryz.sizeOf72 ?_; refine R.clrEnd hO1 (by simp <;> omega) Vw.len Tryz.runUnderlying24 Tryz.zeroValue72 (zc := zc72) rfl (by decide) rfl (by omega) (by simp only [List.length_append, List.length_take, List.length_drop]; omega) (by simp only [List.length_append, List.length_take, List.length_drop]; omega) (hx := rfl) (fun q2 hO2 => ?_); refine R.nl ?_; refine R.hs (e' := [(0, _)]) ?_; refine R.sq ?_; refine R.rg ?_; refine R.mv ?_; refine R.as ?_; refine R.nl ?_; refine R.hs (e' := [(6, _)]) ?_; exact R.rk (RV.t .nil) 0 ⟨rfl, q2, hO2, rfl⟩
end Go.Proofs.YtgdpjpmjcpieiaaGreat

/- Views: set, drop, forget: the program's. No condition. -/
namespace Go.Proofs.YtgdpjpmjcpieiaaGreat
open Go
set_option linter.unusedVariables false
set_option linter.unusedSimpArgs false
set_option maxRecDepth 100000
set_option maxHeartbeats 0
theorem okVs_pw {xs : List Vw} : okVs xs = true ↔ (∀ x ∈ xs, okV x = true) ∧ xs.Pairwise (fun a b => a.id < b.id) := by
  constructor
  · intro h
    refine ⟨fun x hx => ?_, ?_⟩
    · obtain ⟨i, hi⟩ := List.getElem?_of_mem hx
      exact okVs_at h hi
    · rw [List.pairwise_iff_getElem]
      intro i j hi hj hij
      exact okVs_lt h j i _ _ hij (List.getElem?_eq_getElem hi) (List.getElem?_eq_getElem hj)
  · rintro ⟨h1, h2⟩
    rw [okVs_iff]
    intro i hi
    rw [rAt_eq (x := xs[i]) (u := xs[i - 1]'(by omega)) (List.getElem?_eq_getElem hi) (List.getElem?_eq_getElem (by omega)), h1 _ (List.getElem_mem hi)]
    rw [List.pairwise_iff_getElem] at h2
    by_cases h0 : i = 0
    · simp [h0]
    · have := h2 (i - 1) i (by omega) hi (by omega)
      simp [this]
def setV (xs : List Vw) (id : Int) (h : Ht) : List Vw := xs.filter (fun x => decide (x.id < id)) ++ ⟨id, h⟩ :: xs.filter (fun x => decide (id < x.id))
def dropV (xs : List Vw) (id : Int) : List Vw := xs.filter (fun x => decide (x.id ≠ id))
def forgH (keep : Int) (v : Lv) (x : Vw) : Vw := if x.id ≠ keep ∧ toldH x.h = true ∧ lvlH x.h = v then ⟨x.id, nullH x.h.id⟩ else x
def forgetV (xs : List Vw) (v : Lv) (keep : Int) : List Vw := xs.map (forgH keep v)
theorem filter_lt_nil {id : Int} {r : List Vw} (h : ∀ x ∈ r, ¬ x.id < id) : r.filter (fun x => decide (x.id < id)) = [] := by
  rw [List.filter_eq_nil_iff]; intro x hx; simpa using h x hx
theorem pos_take {id : Int} : ∀ {xs : List Vw}, xs.Pairwise (fun a b => a.id < b.id) → xs.take (posV xs id) = xs.filter (fun x => decide (x.id < id)) ∧ xs.drop (posV xs id) = xs.filter (fun x => decide (¬ x.id < id))
  | [], _ => by simp [posV]
  | x :: r, h => by
    rw [List.pairwise_cons] at h
    obtain ⟨ih1, ih2⟩ := pos_take (id := id) h.2
    by_cases hx : x.id < id
    · have hp : posV (x :: r) id = posV r id + 1 := by simp [posV, hx]
      rw [hp, List.take_succ_cons, List.drop_succ_cons, ih1, ih2]
      simp [hx]
    · have hn := filter_lt_nil (id := id) (r := r) fun y hy => by have := h.1 y hy; omega
      have hp : posV (x :: r) id = 0 := by simp [posV, hx, hn]
      have ha : (x :: r).filter (fun x => decide (¬ x.id < id)) = x :: r := by
        rw [List.filter_eq_self]
        intro y hy
        rcases List.mem_cons.1 hy with rfl | hy
        · simpa using hx
        · have := h.1 y hy; simp; omega
      rw [hp, ha]
      simp [hx, hn]
theorem getV_none {xs : List Vw} {id : Int} : (getV xs id).isSome = false ↔ ∀ x ∈ xs, x.id ≠ id := by
  unfold getV
  rw [Option.isSome_eq_false_iff, Option.isNone_iff_eq_none, List.find?_eq_none]
  simp
theorem getV_some {xs : List Vw} {id : Int} : (getV xs id).isSome = true ↔ ∃ x ∈ xs, x.id = id := by
  unfold getV
  rw [List.find?_isSome]
  simp
theorem pos_new {xs : List Vw} {id : Int} (h : okVs xs = true) (hn : (getV xs id).isSome = false) (y : Vw) (z : Vw) (hz : z.id = id) : (xs.take (posV xs id) ++ y :: xs.drop (posV xs id)).set (posV xs id) z = setV xs id z.h := by
  obtain ⟨h1, h2⟩ := okVs_pw.1 h
  obtain ⟨h3, h4⟩ := pos_take (id := id) h2
  have hl : (xs.filter (fun x => decide (x.id < id))).length = posV xs id := rfl
  rw [h3, h4, List.set_append_right _ _ (by rw [hl]; omega), hl, Nat.sub_self, List.set_cons_zero]
  unfold setV
  congr 1
  obtain ⟨zi, zh⟩ := z
  simp only at hz
  subst hz
  congr 1
  refine List.filter_congr fun x hx => ?_
  have := getV_none.1 hn x hx
  simp; omega
theorem pos_old {xs : List Vw} {id : Int} (h : okVs xs = true) (hs : (getV xs id).isSome = true) : ∃ x, xs[posV xs id]? = some x ∧ x.id = id ∧ xs.drop (posV xs id + 1) = xs.filter (fun x => decide (id < x.id)) := by
  obtain ⟨h1, h2⟩ := okVs_pw.1 h
  obtain ⟨h3, h4⟩ := pos_take (id := id) h2
  obtain ⟨x, hx, hid⟩ := getV_some.1 hs
  have hd : xs.drop (posV xs id) = x :: xs.filter (fun x => decide (id < x.id)) := by
    rw [h4]
    clear h3 h4 hs h h1
    induction xs with
    | nil => cases hx
    | cons a r ih =>
      rw [List.pairwise_cons] at h2
      rcases List.mem_cons.1 hx with rfl | hx
      · have e1 : r.filter (fun x => decide (¬ x.id < id)) = r := by
          rw [List.filter_eq_self]; intro y hy; have := h2.1 y hy; simp; omega
        have e2 : r.filter (fun x => decide (id < x.id)) = r := by
          rw [List.filter_eq_self]; intro y hy; have := h2.1 y hy; simp; omega
        rw [List.filter_cons_of_pos (by simp; omega), List.filter_cons_of_neg (by simp; omega), e1, e2]
      · have := h2.1 x hx
        rw [List.filter_cons_of_neg (by simp; omega), List.filter_cons_of_neg (by simp; omega)]
        exact ih h2.2 hx
  refine ⟨x, ?_, hid, ?_⟩
  · have := congrArg (fun l => l[0]?) hd
    simpa using this
  · have := congrArg (List.drop 1) hd
    simpa [List.drop_drop] using this
theorem pos_set {xs : List Vw} {id : Int} (h : okVs xs = true) (hs : (getV xs id).isSome = true) (z : Vw) (hz : z.id = id) : xs.set (posV xs id) z = setV xs id z.h := by
  obtain ⟨x, h1, h2, h3⟩ := pos_old h hs
  have hl : posV xs id < xs.length := by
    rcases Nat.lt_or_ge (posV xs id) xs.length with h | h
    · exact h
    · rw [List.getElem?_eq_none h] at h1; cases h1
  rw [List.set_eq_take_append_cons_drop, if_pos hl, h3, (pos_take (okVs_pw.1 h).2).1]
  unfold setV
  obtain ⟨zi, zh⟩ := z
  simp only at hz
  subst hz; rfl
theorem pos_drop {xs : List Vw} {id : Int} (h : okVs xs = true) (hs : (getV xs id).isSome = true) : xs.take (posV xs id) ++ xs.drop (posV xs id + 1) = dropV xs id := by
  obtain ⟨x, h1, h2, h3⟩ := pos_old h hs
  rw [h3, (pos_take (okVs_pw.1 h).2).1]
  have hp := (okVs_pw.1 h).2
  clear h h1 h2 h3 hs
  unfold dropV
  induction xs with
  | nil => rfl
  | cons a r ih =>
    rw [List.pairwise_cons] at hp
    have ih := ih hp.2
    rcases Int.lt_trichotomy a.id id with h | h | h
    · rw [List.filter_cons_of_pos (by simpa using h), List.filter_cons_of_neg (by simp; omega), List.filter_cons_of_pos (by simp; omega), List.cons_append, ih]
    · rw [List.filter_cons_of_neg (by simp; omega), List.filter_cons_of_neg (by simp; omega), List.filter_cons_of_neg (by simp; omega), ih]
    · have hn := filter_lt_nil (id := id) (r := r) fun y hy => by have := hp.1 y hy; omega
      rw [hn, List.nil_append] at ih
      rw [List.filter_cons_of_neg (by simp; omega), hn, List.nil_append, List.filter_cons_of_pos (by simpa using h), List.filter_cons_of_pos (by simp; omega), ih]
theorem set_spec {g : Gl} {D : Dict} {M : MList} {a : Value} {xs : List Vw} (id : Int) (h : Ht) (hn : xs.length ≤ 999) (ha : Vws D a xs) :
    Gets Tryz.prog g 57 [a, .int .i64 id, .agg (Ht.cells h).toArray] D M (fun u D' => ∃ v, u = .tuple #[v, .int .i64 (errA (okVs xs && okV ⟨id, h⟩))] ∧ Vws D' v (if (okVs xs && okV ⟨id, h⟩) = true then setV xs id h else [])) := by
  have hla := ha.form.choose_spec.choose_spec.2.2
  refine Gets.enter Tryz.func57 rfl Tryz.ntmps57 ?_; refine R.sq ?_; refine R.rg ?_; refine R.bxA (fun b5 hb5 => ?_); refine R.as ?_; refine R.as ?_; refine R.nl ?_; refine R.hs (e' := [(0, _), (1, _), (5, _)]) ?_; refine R.sq ?_; refine R.sq ?_; refine R.rg ?_; refine R.mv ?_; refine R.cg Tryz.call45 (vCheck_spec ha) ?_; refine R.cm ?_; refine R.mv ?_; refine R.gd (fun zg2 => ?_) (fun zg2 => ?_)
  ·refine R.mv ?_; refine R.gY (zg2) ?_; refine R.lA 6 Tryz.isAgg23 Tryz.sizeOf23 ?_; refine R.gY (zg2) ?_; refine R.cg Tryz.call89 (one_spec id h) ?_; refine R.gY (zg2) ?_; refine R.nt ?_; refine R.pF (zg2) ?_; refine R.nl ?_; refine R.hs (e' := [(0, _), (1, _), (5, _), (19, _)]) ?_; refine R.cd (fun zc3 => ?_) (fun zc3 => ?_)
   ·
    have hbad : (okVs xs && okV ⟨id, h⟩) = false := by simp only [errA] at *; grind
    refine R.sq ?_; refine R.rg ?_; refine R.as ?_; refine R.as ?_; refine R.nl ?_; refine R.hs (e' := [(6, _), (7, _)]) ?_
    first
    | exact R.rk (RV.t (RV.t .nil)) 1 ⟨Le.rfl', rfl, .slice none 0 0, by rw [hbad]; rfl, by rw [hbad]; exact Lst.nil _ _ _⟩ (hu := rfl)
    | (refine R.frO hO2 (fun D' hle hL => ?_)
       exact Run.st (fun w hs => hs.drop 1) (R.rk (RV.t (RV.t .nil)) 0 ⟨hle, rfl, _, by rw [hok, hone, errA, Bool.and_self, if_pos rfl], by rw [hok, hone]; exact hL⟩ (hu := rfl)))
   ·
    have hgood : okVs xs = true ∧ okV ⟨id, h⟩ = true := by simp only [errA] at *; grind
    obtain ⟨hok, hone⟩ := hgood
    refine Run.skip ?_; refine R.sq ?_; refine R.rg ?_; refine R.mv ?_; refine R.ca Tryz.call94 (clone_spec (by omega) ha) ?_; rintro _ _ _ ⟨rfl, q0, hO, rfl⟩
    obtain ⟨A, c, rfl, _⟩ := hO.form
    refine R.as ?_; refine R.nl ?_; refine R.hs (e' := [(1, _), (5, _), (8, _)]) ?_; refine R.sq ?_; refine R.rg ?_; refine R.mv ?_; refine R.mv ?_; refine R.cg Tryz.call97 (place_spec id (by omega) (hO.src (fun p hp => List.mem_append_left _ hp)) hok) ?_; refine R.mv ?_; refine R.ex ?_; refine R.ex ?_; refine R.as ?_; refine R.as ?_; refine R.nl ?_; refine R.hs (e' := [(1, _), (5, _), (8, _), (9, _), (10, _)]) ?_; refine R.sq ?_; refine R.sq ?_; refine R.rg ?_; refine R.mv ?_; refine R.nt ?_; refine R.nl ?_; refine R.hs (e' := [(1, _), (5, _), (8, _), (9, _), (29, _)]) ?_; refine R.cd (fun zc4 => ?_) (fun zc4 => ?_)
    ·
     have hno : (getV xs id).isSome = false := by simpa using zc4
     have hpl : posV xs id ≤ xs.length := List.length_filter_le _ _
     refine R.rg ?_; refine R.mv ?_; refine R.mv ?_; refine R.mv ?_; refine R.bd Tryz.zeroValue72 places72 ?_; refine R.bs zc72 Tryz.runUnderlying24 Tryz.sizeOf72 Tryz.zeroValue72 (fun zb5 hzb5 => ?_); refine R.ca Tryz.call98 ((Spec.st (fun w hs => hs.perm List.perm_middle) (insert_spec ⟨id, z0H⟩ (posV xs id) (by omega) hpl hO))) ?_; rintro u _ _ ⟨rfl, q1, hO1, rfl⟩
     obtain ⟨A1, c1, rfl, _⟩ := hO1.form
     have hmid : (xs.take (posV xs id) ++ (⟨id, z0H⟩ : Vw) :: xs.drop (posV xs id))[posV xs id]? = some ⟨id, z0H⟩ := by
       rw [List.getElem?_append_right (by rw [List.length_take]; omega), List.length_take, Nat.min_eq_left hpl, Nat.sub_self]; rfl
     obtain ⟨b1, o1, hI1, hc1⟩ := hO1.at (D := fun _ => none) (M := q1) (fun p hp => hp) Vw.len (i := posV xs id) (x := ⟨id, z0H⟩) hmid
     refine R.as ?_; refine R.nl ?_; refine R.hs (e' := [(5, _), (8, _), (9, _)]) ?_; refine R.sq ?_; refine R.rg ?_; refine R.mv ?_; refine R.mv ?_; refine R.lA 6 Tryz.isAgg23 Tryz.sizeOf23 ?_ (hc := CsN.mkM (List.mem_append_right _ (.head _)) rfl); refine R.ix (hI1) Tryz.runUnderlying24 Tryz.sizeOf72 ?_; refine R.fa Tryz.runUnderlying72 Tryz.sizeOf23 ?_
     first
     | refine R.sp' (⟨id, h⟩ : Vw) [Value.int .i64 id] (Ht.cells z0H) [] hO1 hI1 hmid Vw.len Tryz.sizeOf23 (fun q2 hO2 => ?_)
       rw [pos_new hok hno _ _ rfl] at hO2
     | refine R.sp' (⟨x.id, h⟩ : Vw) [Value.int .i64 x.id] (Ht.cells x.h) [] hO hI1 hgx Vw.len Tryz.sizeOf23 (fun q2 hO2 => ?_)
       rw [pos_set hok hyes ⟨x.id, h⟩ hxi] at hO2
     refine R.nl ?_; refine R.hs (e' := [(8, _)]) ?_; refine R.sq ?_; refine R.rg ?_; refine R.mv ?_; refine R.as ?_; refine R.as ?_; refine R.nl ?_; refine R.hs (e' := [(6, _), (7, _)]) ?_
     first
     | exact R.rk (RV.t (RV.t .nil)) 1 ⟨Le.rfl', rfl, .slice none 0 0, by rw [hbad]; rfl, by rw [hbad]; exact Lst.nil _ _ _⟩ (hu := rfl)
     | (refine R.frO hO2 (fun D' hle hL => ?_)
        exact Run.st (fun w hs => hs.drop 1) (R.rk (RV.t (RV.t .nil)) 0 ⟨hle, rfl, _, by rw [hok, hone, errA, Bool.and_self, if_pos rfl], by rw [hok, hone]; exact hL⟩ (hu := rfl)))
    ·
     have hyes : (getV xs id).isSome = true := by simpa using zc4
     obtain ⟨x, hgx, hxi, _⟩ := pos_old hok hyes
     obtain ⟨b1, o1, hI1, hc1⟩ := hO.at (D := fun _ => none) (M := q0) (fun p hp => hp) Vw.len hgx
     refine Run.skip ?_; refine R.sq ?_; refine R.rg ?_; refine R.mv ?_; refine R.mv ?_; refine R.lA 6 Tryz.isAgg23 Tryz.sizeOf23 ?_ (hc := CsN.mkM (List.mem_append_right _ (.head _)) rfl); refine R.ix (hI1) Tryz.runUnderlying24 Tryz.sizeOf72 ?_; refine R.fa Tryz.runUnderlying72 Tryz.sizeOf23 ?_
     first
     | refine R.sp' (⟨id, h⟩ : Vw) [Value.int .i64 id] (Ht.cells z0H) [] hO1 hI1 hmid Vw.len Tryz.sizeOf23 (fun q2 hO2 => ?_)
       rw [pos_new hok hno _ _ rfl] at hO2
     | refine R.sp' (⟨x.id, h⟩ : Vw) [Value.int .i64 x.id] (Ht.cells x.h) [] hO hI1 hgx Vw.len Tryz.sizeOf23 (fun q2 hO2 => ?_)
       rw [pos_set hok hyes ⟨x.id, h⟩ hxi] at hO2
     refine R.nl ?_; refine R.hs (e' := [(8, _)]) ?_; refine R.sq ?_; refine R.rg ?_; refine R.mv ?_; refine R.as ?_; refine R.as ?_; refine R.nl ?_; refine R.hs (e' := [(6, _), (7, _)]) ?_
     first
     | exact R.rk (RV.t (RV.t .nil)) 1 ⟨Le.rfl', rfl, .slice none 0 0, by rw [hbad]; rfl, by rw [hbad]; exact Lst.nil _ _ _⟩ (hu := rfl)
     | (refine R.frO hO2 (fun D' hle hL => ?_)
        exact Run.st (fun w hs => hs.drop 1) (R.rk (RV.t (RV.t .nil)) 0 ⟨hle, rfl, _, by rw [hok, hone, errA, Bool.and_self, if_pos rfl], by rw [hok, hone]; exact hL⟩ (hu := rfl)))
  ·refine R.gF (zg2) ?_; refine R.gF (zg2) ?_; refine R.gF (zg2) ?_; refine R.pT (zg2) ?_; refine R.nl ?_; refine R.hs (e' := [(0, _), (1, _), (5, _), (19, _)]) ?_; refine R.cT (rfl) ?_
   have hbad : (okVs xs && okV ⟨id, h⟩) = false := by simp only [errA] at *; grind
   refine R.sq ?_; refine R.rg ?_; refine R.as ?_; refine R.as ?_; refine R.nl ?_; refine R.hs (e' := [(6, _), (7, _)]) ?_
   first
   | exact R.rk (RV.t (RV.t .nil)) 1 ⟨Le.rfl', rfl, .slice none 0 0, by rw [hbad]; rfl, by rw [hbad]; exact Lst.nil _ _ _⟩ (hu := rfl)
   | (refine R.frO hO2 (fun D' hle hL => ?_)
      exact Run.st (fun w hs => hs.drop 1) (R.rk (RV.t (RV.t .nil)) 0 ⟨hle, rfl, _, by rw [hok, hone, errA, Bool.and_self, if_pos rfl], by rw [hok, hone]; exact hL⟩ (hu := rfl)))
end Go.Proofs.YtgdpjpmjcpieiaaGreat

/- Views: drop, forget: the program's. No condition. -/
namespace Go.Proofs.YtgdpjpmjcpieiaaGreat
open Go
set_option linter.unusedVariables false
set_option linter.unusedSimpArgs false
set_option maxRecDepth 100000
set_option maxHeartbeats 0
def dropE (xs : List Vw) (id : Int) : Int := if okVs xs = true then (if (getV xs id).isSome = true then 0 else 7) else 1
theorem drop_spec {g : Gl} {D : Dict} {M : MList} {a : Value} {xs : List Vw} (id : Int) (hn : xs.length ≤ 1000) (ha : Vws D a xs) :
    Gets Tryz.prog g 61 [a, .int .i64 id] D M (fun u D' => ∃ v, u = .tuple #[v, .int .i64 (dropE xs id)] ∧ Vws D' v (if dropE xs id = 0 then dropV xs id else [])) := by
  have hla := ha.form.choose_spec.choose_spec.2.2
  refine Gets.enter Tryz.func61 rfl Tryz.ntmps61 ?_; refine R.sq ?_; refine R.rg ?_; refine R.as ?_; refine R.as ?_; refine R.nl ?_; refine R.hs (e' := [(0, _), (1, _)]) ?_; refine R.sq ?_; refine R.sq ?_; refine R.rg ?_; refine R.mv ?_; refine R.cg Tryz.call45 (vCheck_spec ha) ?_; refine R.as ?_; refine R.nl ?_; refine R.hs (e' := [(0, _), (1, _), (6, _)]) ?_; refine R.sq ?_; refine R.rg ?_; refine R.mv ?_; refine R.cm ?_; refine R.nl ?_; refine R.hs (e' := [(0, _), (1, _), (6, _), (12, _)]) ?_; refine R.cd (fun zc1 => ?_) (fun zc1 => ?_)
  ·
   have hok : okVs xs = false := by simp only [errA] at *; grind
   have hE : dropE xs id = 1 := by simp [dropE, hok]
   have hE1 : errA (okVs xs) = 1 := by simp [errA, hok]
   refine R.sq ?_; refine R.rg ?_; refine R.mv ?_; refine R.as ?_; refine R.as ?_; refine R.nl ?_; refine R.hs (e' := [(4, _), (5, _)]) ?_
   first
   | exact R.rk (RV.t (RV.t .nil)) 0 ⟨Le.rfl', rfl, .slice none 0 0, by rw [hE, hE1], by rw [hE]; exact Lst.nil _ _ _⟩ (hu := rfl)
   | exact R.rk (RV.t (RV.t .nil)) 0 ⟨Le.rfl', rfl, .slice none 0 0, by rw [hE], by rw [hE]; exact Lst.nil _ _ _⟩ (hu := rfl)
   | (refine R.frO hO1 (fun D' hle hL => ?_)
      exact R.rk (RV.t (RV.t .nil)) 0 ⟨hle, rfl, _, by rw [hE], by rw [hE, if_pos rfl]; exact hL⟩ (hu := rfl))
  ·
   have hok : okVs xs = true := by simp only [errA] at *; grind
   refine Run.skip ?_; refine R.sq ?_; refine R.rg ?_; refine R.mv ?_; refine R.mv ?_; refine R.cg Tryz.call97 (place_spec id (by omega) (ha.src _) hok) ?_; refine R.mv ?_; refine R.ex ?_; refine R.ex ?_; refine R.as ?_; refine R.as ?_; refine R.nl ?_; refine R.hs (e' := [(0, _), (7, _), (8, _)]) ?_; refine R.sq ?_; refine R.sq ?_; refine R.rg ?_; refine R.mv ?_; refine R.nt ?_; refine R.nl ?_; refine R.hs (e' := [(0, _), (7, _), (21, _)]) ?_; refine R.cd (fun zc2 => ?_) (fun zc2 => ?_)
   ·
    have hno : (getV xs id).isSome = false := by simpa using zc2
    have hE : dropE xs id = 7 := by simp [dropE, hok, hno]
    refine R.sq ?_; refine R.rg ?_; refine R.as ?_; refine R.as ?_; refine R.nl ?_; refine R.hs (e' := [(4, _), (5, _)]) ?_
    first
    | exact R.rk (RV.t (RV.t .nil)) 0 ⟨Le.rfl', rfl, .slice none 0 0, by rw [hE, hE1], by rw [hE]; exact Lst.nil _ _ _⟩ (hu := rfl)
    | exact R.rk (RV.t (RV.t .nil)) 0 ⟨Le.rfl', rfl, .slice none 0 0, by rw [hE], by rw [hE]; exact Lst.nil _ _ _⟩ (hu := rfl)
    | (refine R.frO hO1 (fun D' hle hL => ?_)
       exact R.rk (RV.t (RV.t .nil)) 0 ⟨hle, rfl, _, by rw [hE], by rw [hE, if_pos rfl]; exact hL⟩ (hu := rfl))
   ·
    have hyes : (getV xs id).isSome = true := by simpa using zc2
    have hE : dropE xs id = 0 := by simp [dropE, hok, hyes]
    have hpl : posV xs id < xs.length := by
      obtain ⟨x, h1, _⟩ := pos_old hok hyes
      rcases Nat.lt_or_ge (posV xs id) xs.length with h | h
      · exact h
      · rw [List.getElem?_eq_none h] at h1; cases h1
    refine Run.skip ?_; refine R.sq ?_; refine R.rg ?_; refine R.mv ?_; refine R.ca Tryz.call94 (clone_spec (by omega) ha) ?_; rintro _ _ _ ⟨rfl, q0, hO, rfl⟩; refine R.mv ?_; refine R.mv ?_; refine R.ad ?_; refine R.ca Tryz.call99 (delete_spec (posV xs id) hn hpl hO) ?_; rintro u _ _ ⟨rfl, q1, hO1, rfl⟩
    rw [pos_drop hok hyes] at hO1
    refine R.as ?_; refine R.as ?_; refine R.nl ?_; refine R.hs (e' := [(4, _), (5, _)]) ?_
    first
    | exact R.rk (RV.t (RV.t .nil)) 0 ⟨Le.rfl', rfl, .slice none 0 0, by rw [hE, hE1], by rw [hE]; exact Lst.nil _ _ _⟩ (hu := rfl)
    | exact R.rk (RV.t (RV.t .nil)) 0 ⟨Le.rfl', rfl, .slice none 0 0, by rw [hE], by rw [hE]; exact Lst.nil _ _ _⟩ (hu := rfl)
    | (refine R.frO hO1 (fun D' hle hL => ?_)
       exact R.rk (RV.t (RV.t .nil)) 0 ⟨hle, rfl, _, by rw [hE], by rw [hE, if_pos rfl]; exact hL⟩ (hu := rfl))
theorem forg_step {xs ys : List Vw} {i : Nat} {x : Vw} {v : Lv} {keep : Int} (hy : ys = (xs.take i).map (forgH keep v) ++ xs.drop i) (hx : xs[i]? = some x) : ys[i]? = some x ∧ ys.set i (forgH keep v x) = (xs.take (i + 1)).map (forgH keep v) ++ xs.drop (i + 1) ∧ (forgH keep v x = x → ys = (xs.take (i + 1)).map (forgH keep v) ++ xs.drop (i + 1)) := by
  have hi : i < xs.length := by
    rcases Nat.lt_or_ge i xs.length with h | h
    · exact h
    · rw [List.getElem?_eq_none h] at hx; cases hx
  have hl : ((xs.take i).map (forgH keep v)).length = i := by rw [List.length_map, List.length_take]; omega
  have hd : xs.drop i = x :: xs.drop (i + 1) := by rw [List.drop_eq_getElem_cons hi]; rw [List.getElem?_eq_getElem hi] at hx; injection hx with hx; rw [hx]
  have h1 : ys[i]? = some x := by rw [hy, List.getElem?_append_right (by omega), hl, Nat.sub_self, hd]; rfl
  have h2 : ys.set i (forgH keep v x) = (xs.take (i + 1)).map (forgH keep v) ++ xs.drop (i + 1) := by
    rw [hy, List.set_append_right _ _ (by omega), hl, Nat.sub_self, hd, List.set_cons_zero, take_succ' hx, List.map_append]
    simp
  refine ⟨h1, h2, fun he => ?_⟩
  rw [← h2, he]
  have h3 : i < ys.length := by
    rcases Nat.lt_or_ge i ys.length with h | h
    · exact h
    · rw [List.getElem?_eq_none h] at h1; cases h1
  rw [List.getElem?_eq_getElem h3] at h1
  injection h1 with h1
  rw [← h1, List.set_getElem_self]
theorem forget_spec {g : Gl} {D : Dict} {M : MList} {a : Value} {xs : List Vw} (v : Lv) (keep : Int) (hn : xs.length ≤ 1000) (ha : Vws D a xs) :
    Gets Tryz.prog g 126 [a, .agg (Lv.cells v).toArray, .int .i64 keep] D M (fun u D' => Vws D' u (forgetV xs v keep)) := by
  have hla := ha.form.choose_spec.choose_spec.2.2
  refine Gets.enter Tryz.func126 rfl Tryz.ntmps126 ?_; refine R.sq ?_; refine R.rg ?_; refine R.bxA (fun b4 hb4 => ?_); refine R.as ?_; refine R.nl ?_; refine R.hs (e' := [(0, _), (2, _), (4, _)]) ?_; refine R.sq ?_; refine R.rg ?_; refine R.mv ?_; refine R.ca Tryz.call94 (clone_spec (by omega) ha) ?_; rintro _ _ _ ⟨rfl, q0, hO0, rfl⟩
  obtain ⟨A, c, rfl, _⟩ := hO0.form
  refine R.as ?_; refine R.nl ?_; refine R.hs (e' := [(2, _), (4, _), (7, _)]) ?_; refine R.sq ?_; refine R.sq ?_; refine R.rg ?_; refine R.mv ?_; refine R.ln Tryz.runUnderlying24 ?_; refine R.mv ?_; refine R.nl ?_; refine R.hs (e' := [(2, _), (4, _), (7, _), (12, _), (13, _), (14, _)]) ?_; refine Run.block ?_; refine Run.loop (ι := Nat × List Vw × MList) [(2, _), (4, _), (7, _), (12, _), (13, _)] (fun p => [(14, .int .i64 (p.1 : Int))]) (fun _ => ‹Dict›) (fun p => p.2.2 ++ ((b4, .cells (Lv.cells v).toArray 28 (0, 0)) :: M)) (fun p => p.1 ≤ xs.length ∧ p.2.1 = (xs.take p.1).map (forgH keep v) ++ xs.drop p.1 ∧ VO (.slice A xs.length c) p.2.1 p.2.2) (fun p => xs.length - p.1) ((0, xs, q0)) (by repeat (first | exact trivial | refine ⟨rfl, ?_⟩)) ?h0 (by repeat (first | exact trivial | refine ⟨rfl, ?_⟩)) (fun w hs => hs) ?_
  case h0 => exact ⟨Nat.zero_le _, by simp, hO0⟩
  rintro ⟨i, ys, q⟩ ⟨hi, hys, hO⟩
  simp only at hi hys hO
  refine R.sq ?_; refine R.rg ?_; refine R.cm ?_; refine R.nl ?_; refine R.hs (e' := [(2, _), (4, _), (7, _), (12, _), (13, _), (14, _), (15, _)]) ?_; refine R.sq ?_; refine R.cd (fun zc2 => ?_) (fun zc2 => ?_)
  ·
   have hlt : i < xs.length := by simp at zc2; omega
   obtain ⟨x, hgx⟩ := get_of_lt hlt
   obtain ⟨hgy, hst1, hst2⟩ := forg_step (v := v) (keep := keep) hys hgx
   obtain ⟨b1, o1, hI1, hc1⟩ := hO.at (D := ‹Dict›) (M := q ++ ((b4, .cells (Lv.cells v).toArray 28 (0, 0)) :: M)) (fun p hp => List.mem_append_left _ hp) Vw.len hgy
   refine Run.skip ?_; refine R.sq ?_; refine Run.block ?_; refine R.sq ?_; refine R.rg ?_; refine R.mv ?_; refine R.ix (hI1) Tryz.runUnderlying24 Tryz.sizeOf72 ?_; refine R.lAD 7 Tryz.isAgg72 Tryz.sizeOf72 ?_; refine R.alA Tryz.zeroValue72 (fun zb3 hzb3 => ?_); refine R.as ?_; refine R.st Tryz.sizeOf72 ?_; refine R.nl ?_; refine R.hs (e' := [(2, _), (4, _), (7, _), (8, _), (9, _), (12, _), (13, _), (14, _)]) ?_; refine R.sq ?_
   rcases Bool.eq_false_or_eq_true (!decide (x.id = keep)) with zg4 | zg4
   ·
    rcases Bool.eq_false_or_eq_true (toldH x.h) with zg5 | zg5
    ·refine Run.drawC Grow.eq 14 [(2, _), (4, _), (7, _), (8, _), (9, _), (12, _), (13, _), (14, _)] mix (by kernel_rfl) (by repeat (first | exact trivial | refine ⟨rfl, ?_⟩)) ?_; apply TC.val []; exact rfl; kernel_rfl
     ·rintro _ rfl ; refine R.fa Tryz.runUnderlying72 Tryz.sizeOf3 ?_; refine R.nl ?_; exact Run.loc rfl rfl rfl
     apply TC.val [0]; exact rfl; kernel_rfl
     ·rintro _ rfl _ rfl; refine R.ld Tryz.isAgg3 ?_; refine R.nl ?_; exact Run.loc rfl rfl rfl
     apply TC.val []; exact rfl; kernel_rfl
     ·rintro _ rfl ; refine R.mv ?_; refine R.nl ?_; exact Run.loc rfl rfl rfl
     apply TC.val [1, 0]; exact rfl; kernel_rfl
     ·rintro _ rfl _ rfl _ rfl; refine R.cm ?_; refine R.nl ?_; exact Run.loc rfl rfl rfl
     apply TC.val [0]; exact rfl; kernel_rfl
     ·rintro _ rfl _ rfl; refine R.mv ?_; refine R.nl ?_; exact Run.loc rfl rfl rfl
     apply TC.val [0]; exact rfl; kernel_rfl
     ·rintro _ rfl _ rfl; refine R.gY (zg4) ?_; refine R.fa Tryz.runUnderlying72 Tryz.sizeOf23 ?_; refine R.nl ?_; exact Run.loc rfl rfl rfl
     apply TC.val [1, 0]; exact rfl; kernel_rfl
     ·rintro _ rfl _ rfl _ rfl; refine R.gY (zg4) ?_; refine R.lA 6 Tryz.isAgg23 Tryz.sizeOf23 ?_; refine R.nl ?_; exact Run.loc rfl rfl rfl
     apply TC.val [2, 0]; exact rfl; kernel_rfl
     ·rintro _ rfl _ rfl _ rfl; refine R.gY (zg4) ?_; refine R.cg Tryz.call159 (vTold_spec ⟨_, _, _, _, _, _⟩) ?_; refine R.nl ?_; exact Run.loc rfl rfl rfl
     apply TC.val [3, 0]; exact rfl; kernel_rfl
     ·rintro _ rfl _ rfl _ rfl; refine R.pT (zg4) ?_; refine R.nl ?_; exact Run.loc rfl rfl rfl
     apply TC.val [0]; exact rfl; kernel_rfl
     ·rintro _ rfl _ rfl; refine R.mv ?_; refine R.nl ?_; exact Run.loc rfl rfl rfl
     apply TC.val [0]; exact rfl; kernel_rfl
     ·rintro _ rfl _ rfl; refine R.gY (zg5) ?_; refine R.fa Tryz.runUnderlying72 Tryz.sizeOf23 ?_; refine R.nl ?_; exact Run.loc rfl rfl rfl
     apply TC.val [1, 0]; exact rfl; kernel_rfl
     ·rintro _ rfl _ rfl _ rfl; refine R.gY (zg5) ?_; refine R.lA 6 Tryz.isAgg23 Tryz.sizeOf23 ?_; refine R.nl ?_; exact Run.loc rfl rfl rfl
     apply TC.val [2, 0]; exact rfl; kernel_rfl
     ·rintro _ rfl _ rfl _ rfl; refine R.gY (zg5) ?_; refine R.cg Tryz.call102 (lvl_spec x.h) ?_; refine R.nl ?_; exact Run.loc rfl rfl rfl
     apply TC.val [3]; exact rfl; kernel_rfl
     ·rintro _ rfl _ rfl; refine R.gY (zg5) ?_; refine R.lA 3 Tryz.isAgg28 Tryz.sizeOf28 ?_ (hc := CsN.mkM (.tail _ (List.mem_append_right _ (.head _))) rfl); refine R.nl ?_; exact Run.loc rfl rfl rfl
     refine TC.fin (by rfl) ?_; rintro _ rfl _ rfl _ rfl _ rfl _ rfl _ rfl _ rfl _ rfl _ rfl _ rfl _ rfl _ rfl _ rfl _ rfl _ rfl; refine R.gY (zg5) ?_; refine R.ea Tryz.eqGuardType28 (eqAt28 _ _ _ _ _ _) ?_; refine R.pT (zg5) ?_; refine R.nl ?_; refine R.hs (e' := [(2, _), (4, _), (7, _), (8, _), (9, _), (12, _), (13, _), (14, _), (34, _)]) ?_; refine R.cd (fun zc21 => ?_) (fun zc21 => ?_)
     ·
      have hf : forgH keep v x = ⟨x.id, nullH x.h.id⟩ := by clear hst1 hst2 hys hO hI1 hc1; unfold forgH; rw [if_pos]; simp_all [Lv.ext']
      refine R.rg ?_; refine R.mv ?_; refine R.mv ?_; refine R.fa Tryz.runUnderlying72 Tryz.sizeOf23 ?_; refine R.fa Tryz.runUnderlying23 Tryz.sizeOf3 ?_; refine R.ld Tryz.isAgg3 ?_; refine R.cg Tryz.call25 (hNull_spec _) ?_; refine R.ix (hI1) Tryz.runUnderlying24 Tryz.sizeOf72 ?_; refine R.fa Tryz.runUnderlying72 Tryz.sizeOf23 ?_; refine Run.st (fun w hs => hs.perm (List.perm_middle (l₁ := q))) ?_; refine R.sp' (⟨x.id, nullH x.h.id⟩ : Vw) [Value.int .i64 x.id] (Ht.cells x.h) [] hO hI1 hgy Vw.len Tryz.sizeOf23 (fun q2 hO2 => ?_)
      have hst := hst1
      rw [← hf] at hO2
      refine R.nl ?_; refine R.hs (e' := [(2, _), (4, _), (7, _), (12, _), (13, _), (14, _)]) ?_; refine Run.endBlock ?_; refine R.rg ?_; refine R.ad ?_; refine R.mv ?_; refine R.nl ?_; refine R.hs (e' := [(2, _), (4, _), (7, _), (12, _), (13, _), (14, _)]) ?_
      first | exact Run.again (i + 1, ys.set i (forgH keep v x), q2) ⟨by simp <;> omega, hst, hO2⟩ (by simp <;> omega) (by refine ⟨rfl, ?_⟩; repeat (first | exact trivial | refine ⟨rfl, ?_⟩)) (fun w hs => hs.dropMid (a := [_])) | exact Run.again (i + 1, ys, q) ⟨by simp <;> omega, hst, hO⟩ (by simp <;> omega) (by refine ⟨rfl, ?_⟩; repeat (first | exact trivial | refine ⟨rfl, ?_⟩)) (fun w hs => hs.drop 1)
     ·
      have hf : forgH keep v x = x := by clear hst1 hst2 hys hO hI1 hc1; unfold forgH; rw [if_neg]; simp_all [Lv.ext']
      have hst := hst2 hf
      refine Run.skip ?_; refine Run.endBlock ?_; refine R.rg ?_; refine R.ad ?_; refine R.mv ?_; refine R.nl ?_; refine R.hs (e' := [(2, _), (4, _), (7, _), (12, _), (13, _), (14, _)]) ?_
      first | exact Run.again (i + 1, ys.set i (forgH keep v x), q2) ⟨by simp <;> omega, hst, hO2⟩ (by simp <;> omega) (by refine ⟨rfl, ?_⟩; repeat (first | exact trivial | refine ⟨rfl, ?_⟩)) (fun w hs => hs.dropMid (a := [_])) | exact Run.again (i + 1, ys, q) ⟨by simp <;> omega, hst, hO⟩ (by simp <;> omega) (by refine ⟨rfl, ?_⟩; repeat (first | exact trivial | refine ⟨rfl, ?_⟩)) (fun w hs => hs.drop 1)
    ·refine Run.drawC Grow.eq 14 [(2, _), (4, _), (7, _), (8, _), (9, _), (12, _), (13, _), (14, _)] mix (by kernel_rfl) (by repeat (first | exact trivial | refine ⟨rfl, ?_⟩)) ?_; apply TC.val []; exact rfl; kernel_rfl
     ·rintro _ rfl ; refine R.fa Tryz.runUnderlying72 Tryz.sizeOf3 ?_; refine R.nl ?_; exact Run.loc rfl rfl rfl
     apply TC.val [0]; exact rfl; kernel_rfl
     ·rintro _ rfl _ rfl; refine R.ld Tryz.isAgg3 ?_; refine R.nl ?_; exact Run.loc rfl rfl rfl
     apply TC.val []; exact rfl; kernel_rfl
     ·rintro _ rfl ; refine R.mv ?_; refine R.nl ?_; exact Run.loc rfl rfl rfl
     apply TC.val [1, 0]; exact rfl; kernel_rfl
     ·rintro _ rfl _ rfl _ rfl; refine R.cm ?_; refine R.nl ?_; exact Run.loc rfl rfl rfl
     apply TC.val [0]; exact rfl; kernel_rfl
     ·rintro _ rfl _ rfl; refine R.mv ?_; refine R.nl ?_; exact Run.loc rfl rfl rfl
     apply TC.val [0]; exact rfl; kernel_rfl
     ·rintro _ rfl _ rfl; refine R.gY (zg4) ?_; refine R.fa Tryz.runUnderlying72 Tryz.sizeOf23 ?_; refine R.nl ?_; exact Run.loc rfl rfl rfl
     apply TC.val [1, 0]; exact rfl; kernel_rfl
     ·rintro _ rfl _ rfl _ rfl; refine R.gY (zg4) ?_; refine R.lA 6 Tryz.isAgg23 Tryz.sizeOf23 ?_; refine R.nl ?_; exact Run.loc rfl rfl rfl
     apply TC.val [2, 0]; exact rfl; kernel_rfl
     ·rintro _ rfl _ rfl _ rfl; refine R.gY (zg4) ?_; refine R.cg Tryz.call159 (vTold_spec ⟨_, _, _, _, _, _⟩) ?_; refine R.nl ?_; exact Run.loc rfl rfl rfl
     apply TC.val [3, 0]; exact rfl; kernel_rfl
     ·rintro _ rfl _ rfl _ rfl; refine R.pT (zg4) ?_; refine R.nl ?_; exact Run.loc rfl rfl rfl
     apply TC.val [0]; exact rfl; kernel_rfl
     ·rintro _ rfl _ rfl; refine R.mv ?_; refine R.nl ?_; exact Run.loc rfl rfl rfl
     apply TC.val [0]; exact rfl; kernel_rfl
     ·rintro _ rfl _ rfl; refine R.gF (zg5) ?_; refine R.nl ?_; exact Run.loc rfl rfl rfl
     apply TC.val [1, 0]; exact rfl; kernel_rfl
     ·rintro _ rfl _ rfl _ rfl; refine R.gF (zg5) ?_; refine R.nl ?_; exact Run.loc rfl rfl rfl
     apply TC.val [2, 0]; exact rfl; kernel_rfl
     ·rintro _ rfl _ rfl _ rfl; refine R.gF (zg5) ?_; refine R.nl ?_; exact Run.loc rfl rfl rfl
     apply TC.val [3]; exact rfl; kernel_rfl
     ·rintro _ rfl _ rfl; refine R.gF (zg5) ?_; refine R.nl ?_; exact Run.loc rfl rfl rfl
     refine TC.fin (by rfl) ?_; rintro _ rfl _ rfl _ rfl _ rfl _ rfl _ rfl _ rfl _ rfl _ rfl _ rfl _ rfl _ rfl _ rfl _ rfl _ rfl; refine R.gF (zg5) ?_; refine R.pF (zg5) ?_; refine R.nl ?_; refine R.hs (e' := [(2, _), (4, _), (7, _), (8, _), (9, _), (12, _), (13, _), (14, _), (34, _)]) ?_; refine R.cF (rfl) ?_
     have hf : forgH keep v x = x := by clear hst1 hst2 hys hO hI1 hc1; unfold forgH; rw [if_neg]; simp_all [Lv.ext']
     have hst := hst2 hf
     refine Run.skip ?_; refine Run.endBlock ?_; refine R.rg ?_; refine R.ad ?_; refine R.mv ?_; refine R.nl ?_; refine R.hs (e' := [(2, _), (4, _), (7, _), (12, _), (13, _), (14, _)]) ?_
     first | exact Run.again (i + 1, ys.set i (forgH keep v x), q2) ⟨by simp <;> omega, hst, hO2⟩ (by simp <;> omega) (by refine ⟨rfl, ?_⟩; repeat (first | exact trivial | refine ⟨rfl, ?_⟩)) (fun w hs => hs.dropMid (a := [_])) | exact Run.again (i + 1, ys, q) ⟨by simp <;> omega, hst, hO⟩ (by simp <;> omega) (by refine ⟨rfl, ?_⟩; repeat (first | exact trivial | refine ⟨rfl, ?_⟩)) (fun w hs => hs.drop 1)
   ·refine Run.drawC Grow.eq 14 [(2, _), (4, _), (7, _), (8, _), (9, _), (12, _), (13, _), (14, _)] mix (by kernel_rfl) (by repeat (first | exact trivial | refine ⟨rfl, ?_⟩)) ?_; apply TC.val []; exact rfl; kernel_rfl
    ·rintro _ rfl ; refine R.fa Tryz.runUnderlying72 Tryz.sizeOf3 ?_; refine R.nl ?_; exact Run.loc rfl rfl rfl
    apply TC.val [0]; exact rfl; kernel_rfl
    ·rintro _ rfl _ rfl; refine R.ld Tryz.isAgg3 ?_; refine R.nl ?_; exact Run.loc rfl rfl rfl
    apply TC.val []; exact rfl; kernel_rfl
    ·rintro _ rfl ; refine R.mv ?_; refine R.nl ?_; exact Run.loc rfl rfl rfl
    apply TC.val [1, 0]; exact rfl; kernel_rfl
    ·rintro _ rfl _ rfl _ rfl; refine R.cm ?_; refine R.nl ?_; exact Run.loc rfl rfl rfl
    apply TC.val [0]; exact rfl; kernel_rfl
    ·rintro _ rfl _ rfl; refine R.mv ?_; refine R.nl ?_; exact Run.loc rfl rfl rfl
    apply TC.val [0]; exact rfl; kernel_rfl
    ·rintro _ rfl _ rfl; refine R.gF (zg4) ?_; refine R.nl ?_; exact Run.loc rfl rfl rfl
    apply TC.val [1, 0]; exact rfl; kernel_rfl
    ·rintro _ rfl _ rfl _ rfl; refine R.gF (zg4) ?_; refine R.nl ?_; exact Run.loc rfl rfl rfl
    apply TC.val [2, 0]; exact rfl; kernel_rfl
    ·rintro _ rfl _ rfl _ rfl; refine R.gF (zg4) ?_; refine R.nl ?_; exact Run.loc rfl rfl rfl
    apply TC.val [3, 0]; exact rfl; kernel_rfl
    ·rintro _ rfl _ rfl _ rfl; refine R.pF (zg4) ?_; refine R.nl ?_; exact Run.loc rfl rfl rfl
    apply TC.val [0]; exact rfl; kernel_rfl
    ·rintro _ rfl _ rfl; refine R.mv ?_; refine R.nl ?_; exact Run.loc rfl rfl rfl
    apply TC.val [0]; exact rfl; kernel_rfl
    ·rintro _ rfl _ rfl; refine R.gF (rfl) ?_; refine R.nl ?_; exact Run.loc rfl rfl rfl
    apply TC.val [1, 0]; exact rfl; kernel_rfl
    ·rintro _ rfl _ rfl _ rfl; refine R.gF (rfl) ?_; refine R.nl ?_; exact Run.loc rfl rfl rfl
    apply TC.val [2, 0]; exact rfl; kernel_rfl
    ·rintro _ rfl _ rfl _ rfl; refine R.gF (rfl) ?_; refine R.nl ?_; exact Run.loc rfl rfl rfl
    apply TC.val [3]; exact rfl; kernel_rfl
    ·rintro _ rfl _ rfl; refine R.gF (rfl) ?_; refine R.nl ?_; exact Run.loc rfl rfl rfl
    refine TC.fin (by rfl) ?_; rintro _ rfl _ rfl _ rfl _ rfl _ rfl _ rfl _ rfl _ rfl _ rfl _ rfl _ rfl _ rfl _ rfl _ rfl _ rfl; refine R.gF (rfl) ?_; refine R.pF (rfl) ?_; refine R.nl ?_; refine R.hs (e' := [(2, _), (4, _), (7, _), (8, _), (9, _), (12, _), (13, _), (14, _), (34, _)]) ?_; refine R.cF (rfl) ?_
    have hf : forgH keep v x = x := by clear hst1 hst2 hys hO hI1 hc1; unfold forgH; rw [if_neg]; simp_all [Lv.ext']
    have hst := hst2 hf
    refine Run.skip ?_; refine Run.endBlock ?_; refine R.rg ?_; refine R.ad ?_; refine R.mv ?_; refine R.nl ?_; refine R.hs (e' := [(2, _), (4, _), (7, _), (12, _), (13, _), (14, _)]) ?_
    first | exact Run.again (i + 1, ys.set i (forgH keep v x), q2) ⟨by simp <;> omega, hst, hO2⟩ (by simp <;> omega) (by refine ⟨rfl, ?_⟩; repeat (first | exact trivial | refine ⟨rfl, ?_⟩)) (fun w hs => hs.dropMid (a := [_])) | exact Run.again (i + 1, ys, q) ⟨by simp <;> omega, hst, hO⟩ (by simp <;> omega) (by refine ⟨rfl, ?_⟩; repeat (first | exact trivial | refine ⟨rfl, ?_⟩)) (fun w hs => hs.drop 1)
  ·
   have hfin : ys = forgetV xs v keep := by
     have : i = xs.length := by simp at zc2; omega
     rw [hys, this, List.take_length, List.drop_length, List.append_nil]; rfl
   refine Run.exit rfl ?_; refine R.sq ?_; refine R.rg ?_; refine R.mv ?_; refine R.as ?_; refine R.nl ?_; refine R.hs (e' := [(6, _)]) ?_
   rw [hfin] at hO
   refine R.frO hO (fun D' hle hL => ?_); exact Run.st (fun w hs => hs.drop 1) (R.rk (RV.t .nil) 0 ⟨hle, rfl, hL⟩ (hu := rfl))
end Go.Proofs.YtgdpjpmjcpieiaaGreat

/- Statements whose order is open, with one or two effects among the operations that may stand in any order; an effect may have a value. No condition. -/
namespace Go.Proofs.YtgdpjpmjcpieiaaGreat
open Go
set_option linter.unusedVariables false
set_option linter.unusedSimpArgs false
def draw3Ok (l : List Oper) (m n x y : Nat) (base : List Nat) : Bool :=
  Nat.ble m l.length && Nat.blt x m && (Nat.blt y m || Nat.ble l.length y) && !(Nat.beq x y) &&
  ((List.range m).all fun i => match l[i]? with
    | none => false
    | some o => (match o.dst with
        | none => Nat.beq i x || Nat.beq i y
        | some d => Nat.blt d n && !(base.any (Nat.beq d)) && (List.range m).all fun j => Nat.beq i j || match dstE l j with
            | some d' => !(Nat.beq d d')
            | none => true) &&
      (depsE l m o).all (fun j => Nat.blt j i && dirE l i j) && !isDefer o.op) &&
  ((List.range (l.length - m)).all fun s => (List.range (m + s)).all fun j => nearE l (m + s) j) &&
  ((List.range l.length).all fun i => match l[i]? with
    | none => false
    | some o => o.after.toList.all fun e => !(Region.binds .any e) || Nat.blt e.on i)
/-- an effect's own slot -/
def xenv (b : Bool) (d : Option Nat) (v : Value) : Env := match b, d with
  | true, some d => [(d, v)]
  | _, _ => []
/-- what is so of the memory, told by which effects were -/
def KK (M : MList) (K1 K2 : Dict → Value → MList → Prop) (K3 : Dict → Value → Value → MList → Prop) : Dict → Bool → Bool → Value → Value → MList → Prop
  | _, false, false, _, _, M' => M' = M
  | D, true, false, v, _, M' => K1 D v M'
  | D, false, true, _, v, M' => K2 D v M'
  | D, true, true, v, v', M' => K3 D v v' M'
section
variable {R : Dict → Dict → Prop} {P : Program} {n : Nat} {Q : Exit → Act → World → Prop} {g : Gl} {k : List It} {e : Env} {D : Dict} {M : MList}
structure Inv3 (R : Dict → Dict → Prop) (n : Nat) (g : Gl) (l : List Oper) (m x y : Nat) (KE : Dict → Bool → Bool → Value → Value → MList → Prop) (base : Env) (D : Dict) (Fs : List Fct) (listed : Array Bool) (a : Act) (w : World) : Prop where
  defs : a.defers = []
  env : EnvOk n base a
  len : listed.size = l.length
  closed : ∀ i, listed.getD i false = true → ∀ j, dirE l i j = true → listed.getD j false = true
  ex : ∃ D' M' v1 v2, R D D' ∧ St g w D' M' ∧ KE D' (listed.getD x false) (listed.getD y false) v1 v2 M' ∧
    (listed.getD x false = true → ∀ d, dstE l x = some d → a.tmps[d]? = some v1) ∧ (listed.getD y false = true → ∀ d, dstE l y = some d → a.tmps[d]? = some v2) ∧
    ∀ i, i < m → i ≠ x → i ≠ y → listed.getD i false = true → ∃ d v F, dstE l i = some d ∧ Fs[i]? = some F ∧ a.tmps[d]? = some v ∧ F v D'
def EffV (R : Dict → Dict → Prop) (g : Gl) (D : Dict) (dx : Option Nat) (KE : Dict → Value → MList → Prop) : Exit → Act → World → Prop := fun ex a w => ex = .normal ∧ a.defers = [] ∧ ∃ D' M' v, R D D' ∧ St g w D' M' ∧ (∀ d, dx = some d → a.tmps[d]? = some v) ∧ KE D' v M'
theorem Run.effn {D' : Dict} {KE : Dict → Value → MList → Prop} {M' : MList} (hD : R D D') (hK : KE D' undef M') : Run P n (EffV R g D none KE) g [] e D' M' := fun a w he hd hs => ⟨rfl, hd, D', M', undef, hD, hs, fun d h => (by cases h), hK⟩
theorem Run.effv {D' : Dict} {KE : Dict → Value → MList → Prop} {M' : MList} {d : Nat} {v : Value} (hv : e.get d = some v) (hD : R D D') (hK : KE D' v M') : Run P n (EffV R g D (some d) KE) g [] e D' M' := fun a w he hd hs => ⟨rfl, hd, D', M', v, hD, hs, fun d' h => (by injection h with h; subst h; exact he.at_ _ _ hv), hK⟩
/-- operation i by itself, in whatever state it may meet -/
def Loc3 (R : Dict → Dict → Prop) (P : Program) (n : Nat) (g : Gl) (l : List Oper) (m x y : Nat) (KE : Dict → Bool → Bool → Value → Value → MList → Prop) (base : Env) (D : Dict) (i : Nat) (Fs : List Fct) (F : Fct) : Prop :=
  match l[i]? with
  | none => True
  | some o => ∀ D' M' b1 b2 v1 v2, R D D' → KE D' b1 b2 v1 v2 M' → (b1 = true → ahead l x i = false) → (b2 = true → ahead l y i = false) → (dirE l i x = true → b1 = true) → (dirE l i y = true → b2 = true) →
      ∃ L : List (Nat × Fct), (∀ p ∈ L, ∃ j, j ∈ depsE l m o ∧ j ≠ x ∧ j ≠ y ∧ p = ((dstE l j).getD 0, Fs.getD j (fun _ _ => False))) ∧
      Wit L D' fun e => Run P n (if i = x then EffV R g D' (dstE l x) (fun D v => KE D true b2 v v2) else if i = y then EffV R g D' (dstE l y) (fun D v => KE D b1 true v1 v) else LocQ R g D' M' (o.dst.getD 0) F) g [.ops l.toArray [o]] (e ++ (xenv b1 (dstE l x) v1 ++ (xenv b2 (dstE l y) v2 ++ base))) D' M'
theorem first_any3 {l : List Oper} {m : Nat} {I : Array Bool → Act → World → Prop} (hIlen : ∀ {listed a w}, I listed a w → listed.size = l.length) (hIcl : ∀ {listed a w}, I listed a w → ∀ i, listed.getD i false = true → ∀ j, dirE l i j = true → listed.getD j false = true) (hm : m ≤ l.length) (hlt : ∀ i j, dirE l i j = true → j < i) (hs : ∀ s, m ≤ s → s < l.length → ∀ j, j < s → nearE l s j = true)
    (hstep : ∀ i, i < m → ∀ listed a w, I listed a w → (∀ j, m ≤ j → listed.getD j false = false) → i ∈ Region.ready .any l.toArray listed → wpOp P l.toArray Q i (fun a' w' => I (listed.setIfInBounds i true) a' w') a w)
    (hend : ∀ listed a w, I listed a w → (∀ j, m ≤ j → listed.getD j false = false) → (∀ i, i < m → listed.getD i false = true) → wpList P l.toArray Q (l.drop m) a w) :
    ∀ (r : Nat) (listed : Array Bool) (a : Act) (w : World), (todo l listed).length = r → (∀ i, m ≤ i → listed.getD i false = false) → I listed a w → wpAny P .any l.toArray Q r listed a w := by
  intro r listed a w hr hno hi
  refine first_anyG (I := fun li a w => I li a w ∧ ∀ j, m ≤ j → li.getD j false = false) (m := m) (fun h => hIlen h.1) (fun h => hIcl h.1) hm hlt hs ?_ ?_ r listed a w hr hno ⟨hi, hno⟩
  · intro i him li a w ⟨h1, h2⟩ hrd
    refine wpOp_mono (fun a' w' h => ⟨h, fun j hj => ?_⟩) (hstep i him li a w h1 h2 hrd)
    rw [getD_set_ne false (by omega)]
    exact h2 j hj
  · exact fun li a w ⟨h1, h2⟩ h3 => hend li a w h1 h2 h3
theorem Run.draw3 {id : Nat} {l : List Oper} (hG : Grow R) (m x y : Nat) (KE : Dict → Bool → Bool → Value → Value → MList → Prop) (base : Env) (Fs : List Fct) (hmix : P.follows .mixedOrders = true) (hok : draw3Ok l m n x y (base.map Prod.fst) = true) (hbase : e.Has base) (hFl : Fs.length = m)
    (hKE : ∀ D v1 v2, KE D false false v1 v2 M) (hKm : ∀ D D' b1 b2 v1 v2 M', R D D' → KE D b1 b2 v1 v2 M' → KE D' b1 b2 v1 v2 M')
    (hF : ∀ i, i < m → ∃ F, Fs[i]? = some F ∧ MonoF R F ∧ Loc3 R P n g l m x y KE base D i (Fs.take i) F)
    (hZ : ∀ v1 v2 D' M', R D D' → KE D' true (Nat.blt y m) v1 v2 M' → ∃ L : List (Nat × Fct), (∀ p ∈ L, ∃ j, j < m ∧ j ≠ x ∧ j ≠ y ∧ p = ((dstE l j).getD 0, Fs.getD j (fun _ _ => False))) ∧ Wit L D' fun e' => Run P n Q g (.ops l.toArray (l.drop m) :: k) (e' ++ (xenv true (dstE l x) v1 ++ (xenv (Nat.blt y m) (dstE l y) v2 ++ base))) D' M') :
    Run P n Q g (.code (.region id l.toArray true) :: k) e D M := by
  intro a w he hd hst
  show (Code.region id l.toArray true).wp P (itp P Q k) a w
  simp only [draw3Ok, Bool.and_eq_true, List.all_eq_true, List.mem_range] at hok
  obtain ⟨⟨⟨⟨⟨⟨hml, hxm⟩, hym⟩, hxy⟩, hA⟩, hB⟩, hC⟩ := hok
  have hxm' : x < m := by simpa [Nat.blt_eq] using hxm
  have hml' : m ≤ l.length := Nat.le_of_ble_eq_true hml
  have hym' : y < m ∨ l.length ≤ y := by
    rcases Bool.or_eq_true _ _ ▸ hym with h | h
    · exact .inl (by simpa [Nat.blt_eq] using h)
    · exact .inr (Nat.le_of_ble_eq_true h)
  have hxy' : x ≠ y := fun e => by rw [e, Nat.beq_refl] at hxy; cases hxy
  have hlt : ∀ i j, dirE l i j = true → j < i := by
    intro i j hij
    unfold dirE at hij
    split at hij
    · rename_i o ho
      simp only [List.any_eq_true, Bool.and_eq_true] at hij
      obtain ⟨ed, hed, hb, hj⟩ := hij
      have hil : i < l.length := by
        rcases Nat.lt_or_ge i l.length with h | h
        · exact h
        · rw [List.getElem?_eq_none h] at ho; cases ho
      have := hC i hil
      rw [ho] at this
      simp only [List.all_eq_true] at this
      have := this ed hed
      rw [hb] at this
      simp [Nat.blt_eq] at this
      rw [← Nat.eq_of_beq_eq_true hj]; exact this
    · cases hij
  have hs : ∀ s, m ≤ s → s < l.length → ∀ j, j < s → nearE l s j = true := by
    intro s h1 h2 j h3
    have := hB (s - m) (by omega) j (by omega)
    rwa [show m + (s - m) = s by omega] at this
  have hdep : ∀ i, i < m → ∃ o, l[i]? = some o ∧ ∀ j ∈ depsE l m o, j < i ∧ dirE l i j = true := by
    intro i him
    have h1 := hA i him
    cases ho : l[i]? with
    | none => rw [ho] at h1; cases h1
    | some o =>
      rw [ho] at h1
      simp only [Bool.and_eq_true] at h1
      obtain ⟨⟨h2, h3⟩, _⟩ := h1
      refine ⟨o, rfl, fun j hj => ?_⟩
      have := List.all_eq_true.1 h3 j hj
      simp only [Bool.and_eq_true, Nat.blt_eq] at this
      exact ⟨this.1, this.2⟩
  have hdstD : ∀ i, i < m → ∀ d, dstE l i = some d → d < n ∧ (∀ q ∈ base, q.1 ≠ d) ∧ ∀ j, j < m → j ≠ i → ∀ d', dstE l j = some d' → d' ≠ d := by
    intro i him d hd
    have h1 := hA i him
    cases ho : l[i]? with
    | none => rw [ho] at h1; cases h1
    | some o =>
      rw [ho] at h1
      simp only [Bool.and_eq_true] at h1
      obtain ⟨⟨h2, _⟩, _⟩ := h1
      have hdst : o.dst = some d := by simpa [dstE, ho] using hd
      rw [hdst] at h2
      simp only [Bool.and_eq_true, Nat.blt_eq, Bool.not_eq_true', List.all_eq_true, List.mem_range, Bool.or_eq_true] at h2
      obtain ⟨⟨h4, h5⟩, h6⟩ := h2
      refine ⟨h4, ?_, ?_⟩
      · intro q hq he
        have : (base.map Prod.fst).any (Nat.beq d) = true := List.any_eq_true.2 ⟨q.1, List.mem_map.2 ⟨q, hq, rfl⟩, by rw [he]; exact Nat.beq_refl d⟩
        rw [this] at h5; cases h5
      · intro j hj hji d' hd' he
        have := (h6 j hj).resolve_left (fun e => hji (Nat.eq_of_beq_eq_true e).symm)
        rw [hd'] at this
        subst he
        simp at this
  have hdstA : ∀ i, i < m → i ≠ x → i ≠ y → ∃ d, dstE l i = some d := by
    intro i him hix hiy
    have h1 := hA i him
    cases ho : l[i]? with
    | none => rw [ho] at h1; cases h1
    | some o =>
      rw [ho] at h1
      simp only [Bool.and_eq_true] at h1
      obtain ⟨⟨h2, _⟩, _⟩ := h1
      cases hdst : o.dst with
      | none =>
        rw [hdst] at h2
        rcases Bool.or_eq_true _ _ ▸ h2 with h | h
        · exact (hix (Nat.eq_of_beq_eq_true h)).elim
        · exact (hiy (Nat.eq_of_beq_eq_true h)).elim
      | some d => exact ⟨d, by simp [dstE, ho, hdst]⟩
  refine wp_region_any hmix ?_
  have htodo : (todo l (Array.replicate l.toArray.size false)).length = l.toArray.size := by
    have : todo l (Array.replicate l.toArray.size false) = List.range l.length := by
      rw [todo, List.filter_eq_self]
      intro j _
      by_cases hj : j < l.length <;> simp [Array.getElem?_replicate, hj]
    rw [this]; simp
  have hfl : ∀ j, (Array.replicate l.toArray.size false).getD j false = false := by
    intro j
    by_cases hj : j < l.length <;> simp [Array.getElem?_replicate, hj]
  refine first_any3 (I := Inv3 R n g l m x y KE base D Fs) (m := m) (fun h => h.len) (fun h => h.closed) hml' hlt hs ?_ ?_ l.toArray.size _ a _ htodo (fun i _ => hfl i) ⟨hd, he.has hbase, by simp, fun i hi => (by rw [hfl i] at hi; cases hi), D, M, undef, undef, hG.refl D, hst.drew _ (Nat.le_succ _), by rw [hfl x, hfl y]; exact hKE _ _ _, fun h => (by rw [hfl x] at h; cases h), fun h => (by rw [hfl y] at h; cases h), fun i _ _ _ hi => (by rw [hfl i] at hi; cases hi)⟩
  · intro i him listed a w hi hno hr
    obtain ⟨o, ho, hdp⟩ := hdep i him
    obtain ⟨F, hF1, hF2, hF3⟩ := hF i him
    obtain ⟨D', M', v1, v2, hD', hst', hK, ht1, ht2, hex⟩ := hi.ex
    unfold Loc3 at hF3
    rw [ho] at hF3
    simp only at hF3
    have hdirs := ready_dir hr
    have hil : i < l.length := by
      rcases Nat.lt_or_ge i l.length with h | h
      · exact h
      · rw [List.getElem?_eq_none h] at ho; cases ho
    have hnl : listed.getD i false = false := getD_false_of (mem_ready.1 hr).1
    have hah : ∀ z, listed.getD z false = true → ahead l z i = false := by
      intro z hz
      cases ha : ahead l z i with
      | false => rfl
      | true =>
        exfalso
        obtain ⟨q, h1, h2⟩ := List.any_eq_true.1 ha
        have := reachL_listed hi.closed z [z] (fun q hq' => by rw [List.mem_singleton.1 hq']; exact hz) q h1
        rw [← Nat.eq_of_beq_eq_true h2, hnl] at this; cases this
    obtain ⟨L0, hL0, hW0⟩ := hF3 D' M' _ _ v1 v2 hD' hK (hah x) (hah y) (hdirs x) (hdirs y)
    obtain ⟨e', hrun, he'⟩ := hW0.use (a := a) (by
      intro p hp
      obtain ⟨j, hj, hjx, hjy, rfl⟩ := hL0 p hp
      obtain ⟨hji, hje⟩ := hdp j hj
      obtain ⟨d', v, F', h1, h2, h3, h4⟩ := hex j (by omega) hjx hjy (hdirs j hje)
      refine ⟨v, by rw [h1]; exact h3, ?_⟩
      have : (Fs.take i).getD j (fun _ _ => False) = F' := by
        rw [List.getD_eq_getElem?_getD, List.getElem?_take, if_pos hji, h2]; rfl
      show (Fs.take i).getD j (fun _ _ => False) v D'
      rw [this]; exact h4)
    have hxe : ∀ {b d v}, (b = true → ∀ d', d = some d' → a.tmps[d']? = some v) → ∀ t u, (xenv b d v).get t = some u → a.tmps[t]? = some u := by
      intro b d v h t u hg
      cases b with
      | false => cases hg
      | true => cases d with
        | none => cases hg
        | some d' =>
          have := get_mem hg
          simp only [xenv, List.mem_singleton] at this
          injection this with e1 e2
          subst e1; subst e2
          exact h rfl _ rfl
    have hrun' := hrun a w ⟨hi.env.size, fun t v ht => by
      rcases get_append ht with h | h
      · exact he' t v (get_mem h)
      · rcases get_append h with h | h
        · exact hxe ht1 t v h
        · rcases get_append h with h | h
          · exact hxe ht2 t v h
          · exact hi.env.at_ t v h⟩ hi.defs hst'
    have hsz : i < listed.size := by rw [hi.len]; exact hil
    have hclo : ∀ c, (listed.setIfInBounds i true).getD c false = true → ∀ j, dirE l c j = true → (listed.setIfInBounds i true).getD j false = true := by
      intro c hc j hj
      rw [getD_set hsz] at hc ⊢
      rcases hc with rfl | hc
      · exact .inr (hdirs j hj)
      · exact .inr (hi.closed c hc j hj)
    have fin : ∀ (PQ : Exit → Act → World → Prop), (∀ ex a w, PQ ex a w → ex = .normal) → wpList P l.toArray PQ [o] a w →
        (∀ a' w', PQ .normal a' w' → (∃ v, a'.tmps = (a.put o.dst v).tmps) → Inv3 R n g l m x y KE base D Fs (listed.setIfInBounds i true) a' w') →
        wpOp P l.toArray (itp P Q k) i (fun a' w' => Inv3 R n g l m x y KE base D Fs (listed.setIfInBounds i true) a' w') a w := by
      intro PQ hn hrun' hinv
      unfold wpOp
      have hg : l.toArray[i]? = some o := by simpa using ho
      rw [hg]
      simp only
      unfold wpList at hrun'
      split
      · rename_i hw
        rw [if_pos hw] at hrun'
        rcases hrun' with h1 | ⟨_, _, _, h1⟩
        · refine .inl ?_
          have h2 : o.wp P a w (fun a' w' => PQ .normal a' w') (itp P Q k) := Oper.wp_monoP (fun a w h => h) (fun ex a w hne h => (hne (hn _ _ _ h)).elim) h1
          exact Oper.wp_mono (fun a' w' ⟨h3, h4⟩ => hinv a' w' h3 h4) (Oper.wp_put h2)
        · cases hn _ _ _ h1
      · rename_i hw
        rw [if_neg hw] at hrun'
        exact hinv _ _ hrun' ⟨undef, rfl⟩
    have hself : ahead l i i = true := by
      have : ∀ (p : Nat) (acc : List Nat), i ∈ acc → i ∈ reachL l p acc := by
        intro p
        induction p with
        | zero => exact fun _ h => h
        | succ p ih =>
          intro acc h
          refine ih _ ?_
          split
          · exact List.mem_cons_of_mem _ h
          · exact h
      exact List.any_eq_true.2 ⟨i, this i [i] (List.mem_singleton.2 rfl), Nat.beq_refl i⟩
    -- what an operation's own slot leaves
    have keepT : ∀ {a' : Act} {u : Value}, a'.tmps = (a.put o.dst u).tmps → (a'.tmps.size = a.tmps.size) ∧ ∀ t, (∀ d, o.dst = some d → t ≠ d) → a'.tmps[t]? = a.tmps[t]? := by
      intro a' u hu
      cases hdst : o.dst with
      | none => rw [hdst] at hu; have : a'.tmps = a.tmps := hu; rw [this]; exact ⟨rfl, fun _ _ => rfl⟩
      | some d =>
        rw [hdst] at hu
        have : a'.tmps = a.tmps.setIfInBounds d u := hu
        rw [this]
        exact ⟨by simp, fun t ht => Array.getElem?_setIfInBounds_ne (fun e => ht d rfl e.symm)⟩
    have hdE : ∀ d, o.dst = some d → dstE l i = some d := fun d h => by simp [dstE, ho, h]
    have envK : ∀ {a' : Act} {u : Value}, a'.tmps = (a.put o.dst u).tmps → EnvOk n base a' := by
      intro a' u hu
      obtain ⟨k1, k2⟩ := keepT hu
      refine ⟨by rw [k1]; exact hi.env.size, fun t y ht => ?_⟩
      rw [k2 t fun d hd e => (hdstD i him d (hdE d hd)).2.1 _ (get_mem ht) e]
      exact hi.env.at_ t y ht
    have factK : ∀ {a' : Act} {u : Value} {D'' : Dict}, a'.tmps = (a.put o.dst u).tmps → R D' D'' → ∀ c, c < m → c ≠ x → c ≠ y → c ≠ i → listed.getD c false = true → ∃ d v F, dstE l c = some d ∧ Fs[c]? = some F ∧ a'.tmps[d]? = some v ∧ F v D'' := by
      intro a' u D'' hu hD'' c hcm hcx hcy hci hc
      obtain ⟨d', v', F', h1, h2, h3, h4⟩ := hex c hcm hcx hcy hc
      refine ⟨d', v', F', h1, h2, ?_, ?_⟩
      · rw [(keepT hu).2 d' fun d hd e => (hdstD i him d (hdE d hd)).2.2 c hcm hci d' h1 e]; exact h3
      · obtain ⟨F2, g1, g2, _⟩ := hF c hcm
        rw [g1] at h2
        injection h2 with h2
        subst h2
        exact g2 _ _ _ hD'' h4
    have slotK : ∀ {a' : Act} {u v : Value} {z : Nat}, a'.tmps = (a.put o.dst u).tmps → z < m → z ≠ i → (∀ d, dstE l z = some d → a.tmps[d]? = some v) → ∀ d, dstE l z = some d → a'.tmps[d]? = some v := by
      intro a' u v z hu hzm hzi h d hd
      rw [(keepT hu).2 d fun d' hd' e => (hdstD i him d' (hdE d' hd')).2.2 z hzm hzi d hd e]
      exact h d hd
    have hyl : listed.getD y false = true → y < m := fun h => by
      rcases Nat.lt_or_ge y m with h' | h'
      · exact h'
      · rw [hno y h'] at h; cases h
    by_cases hix : i = x
    · rw [if_pos hix] at hrun'
      refine fin (EffV R g D' (dstE l x) _) (fun _ _ _ h => h.1) hrun' ?_
      rintro a' w' ⟨_, hdef', D'', M'', v, hD'', hst'', hv, hK'⟩ ⟨u, hu⟩
      have e1 : (listed.setIfInBounds i true).getD x false = true := (getD_set hsz).2 (.inl hix.symm)
      have e2 : (listed.setIfInBounds i true).getD y false = listed.getD y false := getD_set_ne false (fun e => hxy' (hix.symm.trans e))
      refine ⟨hdef', envK hu, by simpa using hi.len, hclo, D'', M'', v, v2, hG.trans hD' hD'', hst'', by rw [e1, e2]; exact hK', fun _ => hv, fun h => ?_, ?_⟩
      · rw [e2] at h
        exact slotK hu (hyl h) (fun e => hxy' (hix.symm.trans e.symm)) (ht2 h)
      · intro c hcm hcx hcy hc
        rw [getD_set hsz] at hc
        exact factK hu hD'' c hcm hcx hcy (fun e => hcx (e.trans hix)) (hc.resolve_left (fun e => hcx (e.trans hix)))
    · rw [if_neg hix] at hrun'
      have e1 : (listed.setIfInBounds i true).getD x false = listed.getD x false := getD_set_ne false hix
      by_cases hiy : i = y
      · rw [if_pos hiy] at hrun'
        refine fin (EffV R g D' (dstE l y) _) (fun _ _ _ h => h.1) hrun' ?_
        rintro a' w' ⟨_, hdef', D'', M'', v, hD'', hst'', hv, hK'⟩ ⟨u, hu⟩
        have e2 : (listed.setIfInBounds i true).getD y false = true := (getD_set hsz).2 (.inl hiy.symm)
        refine ⟨hdef', envK hu, by simpa using hi.len, hclo, D'', M'', v1, v, hG.trans hD' hD'', hst'', by rw [e1, e2]; exact hK', fun h => ?_, fun _ => hv, ?_⟩
        · rw [e1] at h
          exact slotK hu hxm' (fun e => hix e.symm) (ht1 h)
        · intro c hcm hcx hcy hc
          rw [getD_set hsz] at hc
          exact factK hu hD'' c hcm hcx hcy (fun e => hcy (e.trans hiy)) (hc.resolve_left (fun e => hcy (e.trans hiy)))
      · rw [if_neg hiy] at hrun'
        have e2 : (listed.setIfInBounds i true).getD y false = listed.getD y false := getD_set_ne false hiy
        obtain ⟨d, hdl⟩ := hdstA i him hix hiy
        have hdst : o.dst = some d := by simpa [dstE, ho] using hdl
        refine fin (LocQ R g D' M' (o.dst.getD 0) F) (fun _ _ _ h => h.1) hrun' ?_
        rintro a' w' ⟨_, hdef', v, D'', hv, hD'', hst'', hFv⟩ ⟨u, hu⟩
        rw [hdst] at hv
        refine ⟨hdef', envK hu, by simpa using hi.len, hclo, D'', M', v1, v2, hG.trans hD' hD'', hst'', by rw [e1, e2]; exact hKm _ _ _ _ _ _ _ hD'' hK, fun h => ?_, fun h => ?_, ?_⟩
        · rw [e1] at h
          exact slotK hu hxm' (fun e => hix e.symm) (ht1 h)
        · rw [e2] at h
          exact slotK hu (hyl h) (fun e => hiy e.symm) (ht2 h)
        · intro c hcm hcx hcy hc
          rw [getD_set hsz] at hc
          by_cases hci : c = i
          · subst hci
            exact ⟨d, v, F, hdl, hF1, hv, hFv⟩
          · exact factK hu hD'' c hcm hcx hcy hci (hc.resolve_left hci)
  · intro listed a w hi hno hall
    obtain ⟨D', M', v1, v2, hD', hst', hK, ht1, ht2, hex⟩ := hi.ex
    have b1 : listed.getD x false = true := hall x hxm'
    have b2 : listed.getD y false = Nat.blt y m := by
      rcases hym' with h | h
      · rw [hall y h]; exact (by simpa [Nat.blt_eq] using h : Nat.blt y m = true).symm
      · rw [hno y (by omega)]
        cases hb : Nat.blt y m with
        | false => rfl
        | true => exfalso; rw [Nat.blt_eq] at hb; omega
    rw [b1, b2] at hK
    rw [b2] at ht2
    obtain ⟨L0, hL0, hW0⟩ := hZ v1 v2 D' M' hD' hK
    obtain ⟨e', hrun, he'⟩ := hW0.use (a := a) (by
      intro p hp
      obtain ⟨j, hjm, hjx, hjy, rfl⟩ := hL0 p hp
      obtain ⟨d', v, F', h1, h2, h3, h4⟩ := hex j hjm hjx hjy (hall j hjm)
      refine ⟨v, by rw [h1]; exact h3, ?_⟩
      have : Fs.getD j (fun _ _ => False) = F' := by rw [List.getD_eq_getElem?_getD, h2]; rfl
      show Fs.getD j (fun _ _ => False) v D'
      rw [this]; exact h4)
    have hxe : ∀ {b d v}, (b = true → ∀ d', d = some d' → a.tmps[d']? = some v) → ∀ t u, (xenv b d v).get t = some u → a.tmps[t]? = some u := by
      intro b d v h t u hg
      cases b with
      | false => cases hg
      | true => cases d with
        | none => cases hg
        | some d' =>
          have := get_mem hg
          simp only [xenv, List.mem_singleton] at this
          injection this with e1 e2
          subst e1; subst e2
          exact h rfl _ rfl
    exact hrun a w ⟨hi.env.size, fun t v ht => by
      rcases get_append ht with h | h
      · exact he' t v (get_mem h)
      · rcases get_append h with h | h
        · exact hxe (fun _ => ht1 b1) t v h
        · rcases get_append h with h | h
          · exact hxe ht2 t v h
          · exact hi.env.at_ t v h⟩ hi.defs hst'
/-! ### the same, quicker to reckon -/
def okY (l : List Oper) (x y : Nat) : List Ent → Prop
  | [] => True
  | e :: r => (r.length = x ∨ r.length = y ∨ dstE l r.length = some e.1) ∧ okY l x y r
theorem okY.get {l : List Oper} {x y : Nat} : ∀ {acc : List Ent}, okY l x y acc → ∀ {p : Nat} {z : Ent}, acc[p]? = some z → p < acc.length ∧ (acc.length - 1 - p = x ∨ acc.length - 1 - p = y ∨ dstE l (acc.length - 1 - p) = some z.1)
  | z :: r, h, 0, q, hx => by simp at hx; subst hx; exact ⟨by simp, by simpa using h.1⟩
  | z :: r, h, p + 1, q, hx => by
    obtain ⟨h1, h2⟩ := okY.get h.2 (p := p) (z := q) (by simpa using hx)
    refine ⟨by simp; omega, ?_⟩
    rw [show (z :: r).length - 1 - (p + 1) = r.length - 1 - p by simp; omega]; exact h2
def TY (R : Dict → Dict → Prop) (P : Program) (n : Nat) (Q : Exit → Act → World → Prop) (g : Gl) (k : List It) (l : List Oper) (m x y : Nat) (KE : Dict → Bool → Bool → Value → Value → MList → Prop) (base : Env) (D : Dict) (r i : Nat) (acc : List Ent) : Prop :=
  acc.length = i → i + r = m → okY l x y acc → ∃ ext : List Ent, ext.length = r ∧ okY l x y (ext ++ acc) ∧
    (∀ j, i ≤ j → j < m → ∃ F, ((ext ++ acc).reverse.map Prod.snd)[j]? = some F ∧ MonoF R F ∧ Loc3 R P n g l m x y KE base D j (((ext ++ acc).reverse.map Prod.snd).take j) F) ∧
    ∀ v1 v2 D' M', R D D' → KE D' true (Nat.blt y m) v1 v2 M' → ∃ L : List Ent, (∀ p ∈ L, ∃ q, (ext ++ acc)[q]? = some p ∧ m - 1 - q ≠ x ∧ m - 1 - q ≠ y) ∧ Wit L D' fun e' => Run P n Q g (.ops l.toArray (l.drop m) :: k) (e' ++ (xenv true (dstE l x) v1 ++ (xenv (Nat.blt y m) (dstE l y) v2 ++ base))) D' M'
section
variable {l : List Oper} {m x y r i : Nat} {K1 K2 : Dict → Value → MList → Prop} {K3 : Dict → Value → Value → MList → Prop} {KE : Dict → Bool → Bool → Value → Value → MList → Prop} {base : Env} {acc : List Ent}
theorem TY.step {d : Nat} {F : Fct} (hd : i = x ∨ i = y ∨ dstE l i = some d) (hF : MonoF R F) (hL : acc.length = i → okY l x y acc → Loc3 R P n g l m x y KE base D i (acc.reverse.map Prod.snd) F)
    (h2 : TY R P n Q g k l m x y KE base D r (i + 1) ((d, F) :: acc)) : TY R P n Q g k l m x y KE base D (r + 1) i acc := by
  intro hlen hm hok
  obtain ⟨ext, h3, h4, h5, h6⟩ := h2 (by simp [hlen]) (by omega) ⟨by rw [hlen]; exact hd, hok⟩
  have he : ext ++ (d, F) :: acc = (ext ++ [(d, F)]) ++ acc := by simp
  rw [he] at h4 h5 h6
  refine ⟨ext ++ [(d, F)], by simp [h3], h4, fun j hj hjm => ?_, h6⟩
  rcases Nat.lt_or_ge i j with h | h
  · exact h5 j h hjm
  · have hij : j = i := by omega
    subst hij
    refine ⟨F, ?_, hF, ?_⟩
    · simp [List.reverse_append, hlen]
    · have : ((ext ++ [(d, F)] ++ acc).reverse.map Prod.snd).take j = acc.reverse.map Prod.snd := by
        simp [List.reverse_append, List.take_append, hlen]
      rw [this]; exact hL hlen hok
/-- the facts that operation i leans on are of operations that are no effects -/
def selOk (x y i : Nat) (ps : List Nat) : Bool := ps.all fun p => !(Nat.beq (i - 1 - p) x) && !(Nat.beq (i - 1 - p) y)
theorem TY.deps {o : Oper} {L : List Ent} {ps : List Nat} (hlen : acc.length = i) (hok : okY l x y acc) (ho : l[i]? = some o) (hL : selE acc ps = some L) (hd : depOk l m i ps = true) (hx : selOk x y i ps = true) :
    ∀ p ∈ L, ∃ j, j ∈ depsE l m o ∧ j ≠ x ∧ j ≠ y ∧ p = ((dstE l j).getD 0, (acc.reverse.map Prod.snd).getD j (fun _ _ => False)) := by
  intro z hz
  unfold depOk at hd
  rw [nthO_get, ho] at hd
  simp only [List.all_eq_true, Bool.and_eq_true, Nat.blt_eq, List.any_eq_true] at hd
  obtain ⟨p, hp, hpx⟩ := selE_mem hL z hz
  obtain ⟨hpl, hpd⟩ := hok.get hpx
  obtain ⟨hpi, q, hq, hqe⟩ := hd p hp
  have hqe' : i - 1 - p = q := Nat.eq_of_beq_eq_true hqe
  have hs := List.all_eq_true.1 hx p hp
  simp only [Bool.and_eq_true, Bool.not_eq_true'] at hs
  have n1 : i - 1 - p ≠ x := fun e => by rw [e, Nat.beq_refl] at hs; cases hs.1
  have n2 : i - 1 - p ≠ y := fun e => by rw [e, Nat.beq_refl] at hs; cases hs.2
  refine ⟨i - 1 - p, hqe' ▸ hq, n1, n2, ?_⟩
  have e1 := revGet hpx hpl
  rw [hlen] at e1 hpd
  have hpd := (hpd.resolve_left n1).resolve_left n2
  rw [hpd, e1]; rfl
theorem Wit.mono {D : Dict} {K K' : Env → Prop} (h : ∀ e, K e → K' e) : ∀ {L : List (Nat × Fct)}, Wit L D K → Wit L D K'
  | [], hw => h _ hw
  | (t, F) :: L, hw => fun v hv => Wit.mono (fun e he => h _ he) (hw v hv)
/-- an operation that comes ahead of both effects -/
theorem TY.fctM {d : Nat} {L : List Ent} {o : Oper} {F : Fct} (ps : List Nat) (h0 : preE l i acc ps = some (d, o, L)) (hd : (depOk l m i ps && selOk x y i ps && !(Nat.beq i x) && !(Nat.beq i y) && ahead l x i) = true) (hy : ahead l y i = true ∨ ∀ D v M', ¬ K2 D v M')
    (h1 : ∀ D', R D D' → Wit L D' fun e => Run P n (LocQ R g D' M d F) g [.ops l.toArray [o]] (e ++ base) D' M) (hF : MonoF R F) (h2 : TY R P n Q g k l m x y (KK M K1 K2 K3) base D r (i + 1) ((d, F) :: acc)) : TY R P n Q g k l m x y (KK M K1 K2 K3) base D (r + 1) i acc := by
  simp only [Bool.and_eq_true, Bool.not_eq_true'] at hd
  obtain ⟨⟨⟨⟨hd, hnx⟩, hix⟩, hiy⟩, hah⟩ := hd
  have hix : i ≠ x := fun e => by rw [e, Nat.beq_refl] at hix; cases hix
  have hiy : i ≠ y := fun e => by rw [e, Nat.beq_refl] at hiy; cases hiy
  unfold preE at h0
  rw [nthO_get] at h0
  split at h0
  · cases h0
  · rename_i o' ho
    split at h0
    · cases h0
    · rename_i d' hdst
      split at h0
      · cases h0
      · rename_i L' hL
        injection h0 with h0
        injection h0 with e1 h0
        injection h0 with e2 e3
        subst e1; subst e2; subst e3
        refine TY.step (.inr (.inr (by simp [dstE, ho, hdst]))) hF (fun hlen hok => ?_) h2
        unfold Loc3
        rw [ho]
        intro D' M' b1 b2 v1 v2 hD' hK hb1 hb2 _ _
        have : b1 = false := by cases b1 with
          | false => rfl
          | true => have := hb1 rfl; rw [hah] at this; cases this
        subst this
        have : b2 = false := by cases b2 with
          | false => rfl
          | true => rcases hy with hy | hy
                    · have := hb2 rfl; rw [hy] at this; cases this
                    · exact (hy _ _ _ hK).elim
        subst this
        have hM' : M' = M := hK
        subst hM'
        rw [if_neg hix, if_neg hiy, hdst]
        exact ⟨L', TY.deps hlen hok ho hL hd hnx, h1 D' hD'⟩
theorem TY.fct {d : Nat} {L : List Ent} {o : Oper} (ps : List Nat) (h0 : preE l i acc ps = some (d, o, L)) (hd : (depOk l m i ps && selOk x y i ps && !(Nat.beq i x) && !(Nat.beq i y) && ahead l x i) = true) (hy : ahead l y i = true ∨ ∀ D v M', ¬ K2 D v M') (F : Fct) (hF : MonoF R F)
    (h1 : ∀ D', R D D' → Wit L D' fun e => Run P n (LocQ R g D' M d F) g [.ops l.toArray [o]] (e ++ base) D' M) (h2 : TY R P n Q g k l m x y (KK M K1 K2 K3) base D r (i + 1) ((d, F) :: acc)) : TY R P n Q g k l m x y (KK M K1 K2 K3) base D (r + 1) i acc := TY.fctM ps h0 hd hy h1 hF h2
/-- a bare operation ahead of both effects -/
theorem TY.val {d : Nat} {L : List Ent} {o : Oper} {V : Value} (ps : List Nat) (h0 : preE l i acc ps = some (d, o, L)) (hd : (depOk l m i ps && selOk x y i ps && !(Nat.beq i x) && !(Nat.beq i y) && ahead l x i) = true) (hy : ahead l y i = true ∨ ∀ D v M', ¬ K2 D v M')
    (h1 : ∀ D', R D D' → Wit L D' fun e => Run P n (LocQ R g D' M d (fun v _ => V = v)) g [.ops l.toArray [o]] (e ++ base) D' M) (h2 : TY R P n Q g k l m x y (KK M K1 K2 K3) base D r (i + 1) ((d, fun v _ => V = v) :: acc)) : TY R P n Q g k l m x y (KK M K1 K2 K3) base D (r + 1) i acc :=
  TY.fctM ps h0 hd hy h1 (MonoF.eq V) h2
theorem Run.more {P : Program} {n : Nat} {Q : Exit → Act → World → Prop} {g : Gl} {k : List It} {D : Dict} {M : MList} {e1 e2 b : Env} (h : Run P n Q g k (e1 ++ b) D M) (hne : ∀ t v, (e1 ++ b).get t = some v → (e1 ++ (e2 ++ b)).get t = some v) : Run P n Q g k (e1 ++ (e2 ++ b)) D M :=
  fun a w he hd hs => h a w ⟨he.size, fun t v ht => he.at_ t v (hne t v ht)⟩ hd hs
theorem get_mid {e1 e2 b : Env} (hd : ∀ q ∈ e2, ∀ p ∈ b, p.1 ≠ q.1) : ∀ t v, (e1 ++ b).get t = some v → (e1 ++ (e2 ++ b)).get t = some v := by
  intro t v h
  induction e1 with
  | nil =>
    induction e2 with
    | nil => exact h
    | cons q r ih =>
      obtain ⟨qt, qv⟩ := q
      have h1 := get_mem h
      have h2 : t ≠ qt := hd _ (List.mem_cons_self ..) _ h1
      have := ih fun q hq p hp => hd q (List.mem_cons_of_mem _ hq) p hp
      simp only [List.nil_append] at this ⊢
      show Env.get ((qt, qv) :: (r ++ b)) t = some v
      unfold Env.get
      split
      · rename_i hb
        exact (h2 (Nat.eq_of_beq_eq_true hb).symm).elim
      · exact this
  | cons q r ih =>
    obtain ⟨qt, qv⟩ := q
    have h' : Env.get ((qt, qv) :: (r ++ b)) t = some v := h
    show Env.get ((qt, qv) :: (r ++ (e2 ++ b))) t = some v
    unfold Env.get at h' ⊢
    split
    · rename_i hb; rw [hb] at h'; exact h'
    · rename_i hb; rw [hb] at h'; exact ih h'
/-- no slot of an effect stands in the base -/
def sepOk (l : List Oper) (x : Nat) (base : Env) : Bool := match dstE l x with
  | none => true
  | some d => base.all fun p => !(Nat.beq p.1 d)
theorem sepOk_spec {b : Bool} {v : Value} (h : sepOk l x base = true) : ∀ q ∈ xenv b (dstE l x) v, ∀ p ∈ base, p.1 ≠ q.1 := by
  intro q hq p hp e
  unfold sepOk at h
  cases b with
  | false => cases hq
  | true =>
    split at h
    · rename_i hd; rw [hd] at hq; cases hq
    · rename_i d hd
      rw [hd] at hq
      simp only [xenv, List.mem_singleton] at hq
      subst hq
      have := List.all_eq_true.1 h p hp
      have e : p.1 = d := e
      rw [e, Nat.beq_refl] at this; cases this
theorem get_mid2 {b1 b2 : Bool} {v1 v2 : Value} {e : Env} (h1 : sepOk l x base = true) (h2 : sepOk l y base = true) (hxy : ∀ d d', dstE l x = some d → dstE l y = some d' → d' ≠ d) : ∀ t v, (e ++ base).get t = some v → (e ++ (xenv b1 (dstE l x) v1 ++ (xenv b2 (dstE l y) v2 ++ base))).get t = some v := by
  intro t v h
  refine get_mid (fun q hq p hp => ?_) t v (get_mid (sepOk_spec h2) t v h)
  rcases List.mem_append.1 hp with hp | hp
  · cases b1 with
    | false => cases hq
    | true => cases b2 with
      | false => cases hp
      | true =>
        unfold xenv at hq hp
        cases hdx : dstE l x with
        | none => rw [hdx] at hq; cases hq
        | some d => cases hdy : dstE l y with
          | none => rw [hdy] at hp; cases hp
          | some d' =>
            rw [hdx] at hq; rw [hdy] at hp
            rw [List.mem_singleton.1 hq, List.mem_singleton.1 hp]
            exact hxy d d' hdx hdy
  · exact sepOk_spec h1 q hq p hp
def sepXY (l : List Oper) (x y : Nat) (base : Env) : Bool := sepOk l x base && sepOk l y base && match dstE l x, dstE l y with
  | some d, some d' => !(Nat.beq d' d)
  | _, _ => true
theorem sepXY_spec {b1 b2 : Bool} {v1 v2 : Value} {e : Env} (h : sepXY l x y base = true) : ∀ t v, (e ++ base).get t = some v → (e ++ (xenv b1 (dstE l x) v1 ++ (xenv b2 (dstE l y) v2 ++ base))).get t = some v := by
  unfold sepXY at h
  simp only [Bool.and_eq_true] at h
  refine get_mid2 h.1.1 h.1.2 fun d d' e1 e2 e3 => ?_
  have := h.2
  rw [e1, e2] at this
  simp only at this
  rw [e3, Nat.beq_refl] at this; cases this
theorem Run.wider {P : Program} {n : Nat} {Q : Exit → Act → World → Prop} {g : Gl} {k : List It} {D : Dict} {M : MList} {e e' : Env} (h : Run P n Q g k e D M) (hne : ∀ t v, e.get t = some v → e'.get t = some v) : Run P n Q g k e' D M :=
  fun a w he hd hs => h a w ⟨he.size, fun t v ht => he.at_ t v (hne t v ht)⟩ hd hs
/-- an operation that may come behind an effect -/
theorem TY.lateF {d : Nat} {L : List Ent} {o : Oper} (ps : List Nat) (h0 : preE l i acc ps = some (d, o, L)) (hd : (depOk l m i ps && selOk x y i ps && !(Nat.beq i x) && !(Nat.beq i y) && sepXY l x y base) = true)
    (F : Fct) (hF : MonoF R F) (h1 : ∀ D' M', (M' = M ∨ (∃ v, K1 D' v M') ∨ (∃ v, K2 D' v M') ∨ ∃ v v', K3 D' v v' M') → R D D' → Wit L D' fun e => Run P n (LocQ R g D' M' d F) g [.ops l.toArray [o]] (e ++ base) D' M')
    (h2 : TY R P n Q g k l m x y (KK M K1 K2 K3) base D r (i + 1) ((d, F) :: acc)) : TY R P n Q g k l m x y (KK M K1 K2 K3) base D (r + 1) i acc := by
  simp only [Bool.and_eq_true, Bool.not_eq_true'] at hd
  obtain ⟨⟨⟨⟨hd, hnx⟩, hix⟩, hiy⟩, hsep⟩ := hd
  have hix : i ≠ x := fun e => by rw [e, Nat.beq_refl] at hix; cases hix
  have hiy : i ≠ y := fun e => by rw [e, Nat.beq_refl] at hiy; cases hiy
  unfold preE at h0
  rw [nthO_get] at h0
  split at h0
  · cases h0
  · rename_i o' ho
    split at h0
    · cases h0
    · rename_i d' hdst
      split at h0
      · cases h0
      · rename_i L' hL
        injection h0 with h0
        injection h0 with e1 h0
        injection h0 with e2 e3
        subst e1; subst e2; subst e3
        refine TY.step (.inr (.inr (by simp [dstE, ho, hdst]))) hF (fun hlen hok => ?_) h2
        unfold Loc3
        rw [ho]
        intro D' M' b1 b2 v1 v2 hD' hK _ _ _ _
        rw [if_neg hix, if_neg hiy, hdst]
        refine ⟨L', TY.deps hlen hok ho hL hd hnx, Wit.mono (fun e he => Run.wider he (sepXY_spec hsep)) (h1 D' M' ?_ hD')⟩
        cases b1 <;> cases b2
        · exact .inl hK
        · exact .inr (.inr (.inl ⟨_, hK⟩))
        · exact .inr (.inl ⟨_, hK⟩)
        · exact .inr (.inr (.inr ⟨_, _, hK⟩))
/-- a bare one -/
theorem TY.late {d : Nat} {L : List Ent} {o : Oper} {V : Value} (ps : List Nat) (h0 : preE l i acc ps = some (d, o, L)) (hd : (depOk l m i ps && selOk x y i ps && !(Nat.beq i x) && !(Nat.beq i y) && sepXY l x y base) = true)
    (h1 : ∀ D' M', (M' = M ∨ (∃ v, K1 D' v M') ∨ (∃ v, K2 D' v M') ∨ ∃ v v', K3 D' v v' M') → R D D' → Wit L D' fun e => Run P n (LocQ R g D' M' d (fun v _ => V = v)) g [.ops l.toArray [o]] (e ++ base) D' M')
    (h2 : TY R P n Q g k l m x y (KK M K1 K2 K3) base D r (i + 1) ((d, fun v _ => V = v) :: acc)) : TY R P n Q g k l m x y (KK M K1 K2 K3) base D (r + 1) i acc := TY.lateF ps h0 hd _ (MonoF.eq V) h1 h2
/-- the first effect; h1' where the second may have been ahead of it -/
theorem TY.eff1 {dx : Option Nat} {L : List Ent} {o : Oper} (ps : List Nat) (hdx : dstE l x = dx) (h0 : preX l x acc ps = some (o, L)) (hd : (depOk l m x ps && selOk x y x ps && !(Nat.beq x y)) = true)
    (h1 : ∀ D', R D D' → Wit L D' fun e => Run P n (EffV R g D' dx K1) g [.ops l.toArray [o]] (e ++ base) D' M)
    (h1' : (ahead l y x = true ∨ ∀ D v M', ¬ K2 D v M') ∨ ∀ D' v2 M', K2 D' v2 M' → R D D' → Wit L D' fun e => Run P n (EffV R g D' dx (fun D v => K3 D v v2)) g [.ops l.toArray [o]] (e ++ (xenv true (dstE l y) v2 ++ base)) D' M')
    (h2 : TY R P n Q g k l m x y (KK M K1 K2 K3) base D r (x + 1) ((0, fun _ _ => True) :: acc)) : TY R P n Q g k l m x y (KK M K1 K2 K3) base D (r + 1) x acc := by
  simp only [Bool.and_eq_true, Bool.not_eq_true'] at hd
  obtain ⟨⟨hd, hnx⟩, hxy⟩ := hd
  unfold preX at h0
  rw [nthO_get] at h0
  split at h0
  · cases h0
  · rename_i o' ho
    split at h0
    · cases h0
    · rename_i L' hL
      injection h0 with h0
      injection h0 with e2 e3
      subst e2; subst e3
      refine TY.step (.inl rfl) (fun _ _ _ _ h => h) (fun hlen hok => ?_) h2
      unfold Loc3
      rw [ho]
      intro D' M' b1 b2 v1 v2 hD' hK hb1 hb2 _ _
      have hself : ahead l x x = true := by
        have : ∀ (p : Nat) (acc : List Nat), x ∈ acc → x ∈ reachL l p acc := by
          intro p
          induction p with
          | zero => exact fun _ h => h
          | succ p ih =>
            intro acc h
            refine ih _ ?_
            split
            · exact List.mem_cons_of_mem _ h
            · exact h
        exact List.any_eq_true.2 ⟨x, this x [x] (List.mem_singleton.2 rfl), Nat.beq_refl x⟩
      have : b1 = false := by cases b1 with
        | false => rfl
        | true => have := hb1 rfl; rw [hself] at this; cases this
      subst this
      rw [if_pos rfl, hdx]
      cases b2 with
      | false =>
        have hM' : M' = M := hK
        subst hM'
        exact ⟨L', TY.deps hlen hok ho hL hd hnx, h1 D' hD'⟩
      | true =>
        rcases h1' with (h | h) | h
        · have := hb2 rfl; rw [h] at this; cases this
        · exact (h _ _ _ hK).elim
        · exact ⟨L', TY.deps hlen hok ho hL hd hnx, h D' v2 M' hK hD'⟩
/-- the second effect; h1' where it may come ahead of the first -/
theorem TY.eff2 {dy : Option Nat} {L : List Ent} {o : Oper} (ps : List Nat) (hdy : dstE l y = dy) (h0 : preX l y acc ps = some (o, L)) (hd : (depOk l m y ps && selOk x y y ps && !(Nat.beq y x)) = true)
    (h1 : ∀ D' v1 M', K1 D' v1 M' → R D D' → Wit L D' fun e => Run P n (EffV R g D' dy (fun D => K3 D v1)) g [.ops l.toArray [o]] (e ++ (xenv true (dstE l x) v1 ++ base)) D' M')
    (h1' : dirE l y x = true ∨ ∀ D', R D D' → Wit L D' fun e => Run P n (EffV R g D' dy K2) g [.ops l.toArray [o]] (e ++ base) D' M)
    (h2 : TY R P n Q g k l m x y (KK M K1 K2 K3) base D r (y + 1) ((0, fun _ _ => True) :: acc)) : TY R P n Q g k l m x y (KK M K1 K2 K3) base D (r + 1) y acc := by
  simp only [Bool.and_eq_true, Bool.not_eq_true'] at hd
  obtain ⟨⟨hd, hnx⟩, hxy⟩ := hd
  have hyx : y ≠ x := fun e => by rw [e, Nat.beq_refl] at hxy; cases hxy
  unfold preX at h0
  rw [nthO_get] at h0
  split at h0
  · cases h0
  · rename_i o' ho
    split at h0
    · cases h0
    · rename_i L' hL
      injection h0 with h0
      injection h0 with e2 e3
      subst e2; subst e3
      refine TY.step (.inr (.inl rfl)) (fun _ _ _ _ h => h) (fun hlen hok => ?_) h2
      unfold Loc3
      rw [ho]
      intro D' M' b1 b2 v1 v2 hD' hK hb1 hb2 hd1 _
      have hself : ahead l y y = true := by
        have : ∀ (p : Nat) (acc : List Nat), y ∈ acc → y ∈ reachL l p acc := by
          intro p
          induction p with
          | zero => exact fun _ h => h
          | succ p ih =>
            intro acc h
            refine ih _ ?_
            split
            · exact List.mem_cons_of_mem _ h
            · exact h
        exact List.any_eq_true.2 ⟨y, this y [y] (List.mem_singleton.2 rfl), Nat.beq_refl y⟩
      have : b2 = false := by cases b2 with
        | false => rfl
        | true => have := hb2 rfl; rw [hself] at this; cases this
      subst this
      rw [if_neg hyx, if_pos rfl, hdy]
      cases b1 with
      | false =>
        have hM' : M' = M := hK
        subst hM'
        rcases h1' with h | h
        · have := hd1 h; cases this
        · exact ⟨L', TY.deps hlen hok ho hL hd hnx, h D' hD'⟩
      | true => exact ⟨L', TY.deps hlen hok ho hL hd hnx, h1 D' v1 M' hK hD'⟩
def cutY (x y : Nat) : List Ent → List Ent
  | [] => []
  | e :: r => match Nat.beq r.length x || Nat.beq r.length y with
    | true => cutY x y r
    | false => e :: cutY x y r
theorem cutY_mem : ∀ {acc : List Ent}, ∀ p ∈ cutY x y acc, ∃ q, acc[q]? = some p ∧ q < acc.length ∧ acc.length - 1 - q ≠ x ∧ acc.length - 1 - q ≠ y
  | e :: r, p, hp => by
    unfold cutY at hp
    split at hp
    · obtain ⟨q, h1, h2, h3⟩ := cutY_mem p hp
      exact ⟨q + 1, by simpa using h1, by simp; omega, by rw [show (e :: r).length - 1 - (q + 1) = r.length - 1 - q by simp; omega]; exact h3⟩
    · rename_i hb
      rcases List.mem_cons.1 hp with rfl | hp
      · refine ⟨0, by simp, by simp, fun h => ?_, fun h => ?_⟩
        · have : r.length = x := by simpa using h
          rw [this, Nat.beq_refl] at hb; cases hb
        · have : r.length = y := by simpa using h
          rw [this, Nat.beq_refl, Bool.or_true] at hb; cases hb
      · obtain ⟨q, h1, h2, h3⟩ := cutY_mem p hp
        exact ⟨q + 1, by simpa using h1, by simp; omega, by rw [show (e :: r).length - 1 - (q + 1) = r.length - 1 - q by simp; omega]; exact h3⟩
/-- the end, where both effects are of the bulk -/
theorem TY.fin2 {dx dy : Option Nat} {rest : List Oper} (hr : l.drop m = rest) (hym : Nat.blt y m = true) (hdx : dstE l x = dx) (hdy : dstE l y = dy) (h : ∀ D' v1 v2 M', K3 D' v1 v2 M' → R D D' → Wit (cutY x y acc) D' fun e' => Run P n Q g (.ops l.toArray rest :: k) (e' ++ (xenv true dx v1 ++ (xenv true dy v2 ++ base))) D' M') : TY R P n Q g k l m x y (KK M K1 K2 K3) base D 0 m acc := by
  intro hlen hm hok
  refine ⟨[], rfl, hok, fun j h1 h2 => by omega, fun v1 v2 D' M' hD' hK => ?_⟩
  rw [hym] at hK ⊢
  refine ⟨_, fun p hp => ?_, by rw [hr, hdx, hdy]; exact h D' v1 v2 M' hK hD'⟩
  obtain ⟨q, h1, h2, h3, h4⟩ := cutY_mem p hp
  exact ⟨q, h1, by rw [← hlen]; exact h3, by rw [← hlen]; exact h4⟩
/-- the end, where there is one effect -/
theorem TY.fin1 {dx : Option Nat} {rest : List Oper} (hr : l.drop m = rest) (hym : Nat.blt y m = false) (hdx : dstE l x = dx) (h : ∀ D' v1 M', K1 D' v1 M' → R D D' → Wit (cutY x y acc) D' fun e' => Run P n Q g (.ops l.toArray rest :: k) (e' ++ (xenv true dx v1 ++ base)) D' M') : TY R P n Q g k l m x y (KK M K1 K2 K3) base D 0 m acc := by
  intro hlen hm hok
  refine ⟨[], rfl, hok, fun j h1 h2 => by omega, fun v1 v2 D' M' hD' hK => ?_⟩
  rw [hym] at hK ⊢
  refine ⟨_, fun p hp => ?_, by rw [hr, hdx]; exact h D' v1 M' hK hD'⟩
  obtain ⟨q, h1, h2, h3, h4⟩ := cutY_mem p hp
  exact ⟨q, h1, by rw [← hlen]; exact h3, by rw [← hlen]; exact h4⟩
theorem Run.drawY {id : Nat} (hG : Grow R) (m x y : Nat) (K1 K2 : Dict → Value → MList → Prop) (K3 : Dict → Value → Value → MList → Prop) (base : Env) (hmix : P.follows .mixedOrders = true) (hok : draw3Ok l m n x y (base.map Prod.fst) = true) (hbase : e.Has base)
    (hm1 : ∀ D D' v M', R D D' → K1 D v M' → K1 D' v M') (hm2 : ∀ D D' v M', R D D' → K2 D v M' → K2 D' v M') (hm3 : ∀ D D' v v' M', R D D' → K3 D v v' M' → K3 D' v v' M')
    (h : TY R P n Q g k l m x y (KK M K1 K2 K3) base D m 0 []) : Run P n Q g (.code (.region id l.toArray true) :: k) e D M := by
  obtain ⟨ext, h1, h2, h3, h4⟩ := h rfl (by omega) trivial
  rw [List.append_nil] at h2 h3 h4
  refine Run.draw3 hG m x y (KK M K1 K2 K3) base (ext.reverse.map Prod.snd) hmix hok hbase (by simp [h1]) (fun _ _ _ => rfl) (fun D D' b1 b2 v1 v2 M' hR hK => match b1, b2, hK with
    | false, false, hK => hK
    | false, true, hK => hm2 _ _ _ _ hR hK
    | true, false, hK => hm1 _ _ _ _ hR hK
    | true, true, hK => hm3 _ _ _ _ _ hR hK) (fun i hi => h3 i (Nat.zero_le _) hi) (fun v1 v2 D' M' hD' hK => ?_)
  obtain ⟨L, h5, h6⟩ := h4 v1 v2 D' M' hD' hK
  refine ⟨L, fun p hp => ?_, h6⟩
  obtain ⟨q, h7, h8, h8'⟩ := h5 p hp
  obtain ⟨h9, h10⟩ := h2.get h7
  rw [h1] at h10
  refine ⟨m - 1 - q, by omega, h8, h8', ?_⟩
  have := revGet h7 h9
  rw [h1] at this
  rw [(h10.resolve_left h8).resolve_left h8', this]; rfl
end
end
end Go.Proofs.YtgdpjpmjcpieiaaGreat

/- From what came in to plain things; from a contract to the call. No condition. -/
namespace Go.Proofs.YtgdpjpmjcpieiaaGreat
open Go Go.ChangeShapes Go.WideShapes Go.ChangeAt Go.RowKit
set_option linter.unusedVariables false
set_option linter.unusedSimpArgs false
/-- all that lies there -/
def All (w : World) : Dict := fun b => w.heap[b]?
def glOf (w : World) : Gl := ⟨w.os, w.output, w.tape, w.drawn⟩
theorem St.all (w : World) : St (glOf w) w (All w) [] := ⟨rfl, rfl, rfl, fun _ _ h => h, (fun p hp => by cases hp), List.nodup_nil, fun p hp => (by cases hp), Nat.le_refl _⟩
theorem St.below {w w' : World} {M : MList} (h : St (glOf w) w' (All w) M) : Below w.heap.size w w' := by
  have hs : w.heap.size ≤ w'.heap.size := by
    rcases Nat.eq_zero_or_pos w.heap.size with h0 | h0
    · omega
    · have h1 := h.imm (w.heap.size - 1) (w.heap[w.heap.size - 1]'(by omega)) (by simp [All])
      have := (Array.getElem?_eq_some_iff.1 h1).1
      omega
  exact ⟨h.os, h.tape, h.out, hs, fun k hk => by
    have h1 := h.imm k w.heap[k] (by simp [All, hk])
    rw [h1]; simp [hk]⟩
theorem Gives.calls {P : Program} {f : FuncId} {vs : List Value} {v : Value} {w : World} (h : Gives P (glOf w) f vs (All w) [] v) : Calls P f vs.toArray w fun e w' => e = .returned v ∧ Below w.heap.size w w' :=
  (h w (St.all w)).mono fun e w' ⟨v', D', M', h1, h2, h3, h4, h5⟩ => by subst h3; subst h4; subst h5; exact ⟨h1, h2.below⟩
/-- .. and what is new lies behind -/
theorem Gives.grown {P : Program} {f : FuncId} {vs : List Value} {v : Value} {w : World} (h : Gives P (glOf w) f vs (All w) [] v) : Calls P f vs.toArray w fun e w' => e = .returned v ∧ ∃ q os', w' = Sort.grow (World.drewN w q) os' :=
  (h w (St.all w)).mono fun e w' ⟨v', D', M', h1, h2, h3, h4, h5⟩ => by
    subst h3; subst h4; subst h5
    refine ⟨h1, w'.drawn - w.drawn, w'.heap.extract w.heap.size w'.heap.size, ?_⟩
    have hb := h2.below
    have hd : w.drawn ≤ w'.drawn := h2.drw
    have hh : w'.heap = w.heap ++ w'.heap.extract w.heap.size w'.heap.size := by
      apply Array.ext_getElem?
      intro k
      by_cases hk : k < w.heap.size
      · rw [Array.getElem?_append_left hk]; exact hb.block k hk
      · rw [Array.getElem?_append_right (by omega), Array.getElem?_extract]
        have := hb.size
        by_cases hk2 : k < w'.heap.size
        · simp only [Nat.min_self]
          rw [if_pos (by omega)]
          congr 1; omega
        · simp only [Nat.min_self]
          rw [if_neg (by omega), Array.getElem?_eq_none (by omega)]
    unfold Sort.grow World.drewN
    have e1 : w.drawn + (w'.drawn - w.drawn) = w'.drawn := by omega
    simp only [e1, ← hh]
    have h6 : w'.os = w.os := h2.os
    have h7 : w'.output = w.output := h2.out
    have h8 : w'.tape = w.tape := h2.tape
    rw [← h6, ← h7, ← h8]
def inI (n : Int) : Prop := -9223372036854775808 ≤ n ∧ n ≤ 9223372036854775807
theorem inI_wf {n : Int} (h : (Lit.int .i64 n).wf = true) : inI n := by
  have h1 : IntKind.i64.min = -9223372036854775808 := rfl
  have h2 : IntKind.i64.max = 9223372036854775807 := rfl
  simp [Lit.wf, h1, h2] at h
  exact h
theorem arr_of {a : Array Value} {l : List Value} (h : a.toList = l) : a = l.toArray := by rw [← h]
/-- cells that read as type t meet R -/
def Rds (P : Program) (w : World) (t : TypeId) (R : List Value → Prop) : Prop := ∀ (H : Type) (enc : TypeId × Value → H) (fuel : Nat) (cs : List Value) (x : DataW H × List MemPlace), DataW.trod enc P w 0 (fun _ => true) true fuel t cs = some x → R cs
section
variable {P : Program} {w : World} {t : TypeId}
theorem Rds.mono {R R' : List Value → Prop} (h : Rds P w t R) (hR : ∀ cs, R cs → R' cs) : Rds P w t R' := fun H enc fuel cs x hx => hR cs (h H enc fuel cs x hx)
theorem Rds.int (ht : P.underlying t = some (.int .i64)) : Rds P w t fun cs => ∃ n, cs = [.int .i64 n] ∧ inI n := fun H enc fuel cs x hx => by
  obtain ⟨n, h1, _, h2⟩ := DataW.trod_int ht hx
  exact ⟨n, h1, inI_wf h2⟩
theorem Rds.bool (ht : P.underlying t = some .bool) : Rds P w t fun cs => ∃ b, cs = [.bool b] := fun H enc fuel cs x hx => by
  obtain ⟨n, h1, _⟩ := DataW.trod_bool ht hx
  exact ⟨n, h1⟩
/-- field after field -/
def Parts (P : Program) (w : World) (cs : List Value) : List Field → List (List Value → Prop) → Prop
  | [], [] => True
  | f :: fs, R :: Rs => R ((cs.drop f.offset).take (P.cellsOf f.type)) ∧ Parts P w cs fs Rs
  | _, _ => False
def RdsAll (P : Program) (w : World) : List Field → List (List Value → Prop) → Prop
  | [], [] => True
  | f :: fs, R :: Rs => Rds P w f.type R ∧ RdsAll P w fs Rs
  | _, _ => False
theorem Rds.struct {fs : Array Field} (ht : P.underlying t = some (.struct fs)) {Rs : List (List Value → Prop)} (h : RdsAll P w fs.toList Rs) : Rds P w t fun cs => cs.length = P.cellsOf t ∧ Parts P w cs fs.toList Rs := fun H enc fuel cs x hx => by
  obtain ⟨xs, n, _, _, h1, h2, h3⟩ := DataW.trod_struct ht hx
  refine ⟨h1, ?_⟩
  have key : ∀ (l : List Field) (Rs : List (List Value → Prop)) (ys : List (DataW H × List MemPlace)), ys.length = l.length → RdsAll P w l Rs → (∀ (i : Nat) (f : Field), l[i]? = some f → DataW.trod enc P w 0 (fun _ => true) true n f.type ((cs.drop f.offset).take (P.cellsOf f.type)) = ys[i]?) → Parts P w cs l Rs := by
    intro l
    induction l with
    | nil => intro Rs ys _ hR _; cases Rs <;> simp_all [RdsAll, Parts]
    | cons f l ih =>
      intro Rs ys hl hR hf
      cases Rs with
      | nil => simp [RdsAll] at hR
      | cons R Rs =>
        cases ys with
        | nil => simp at hl
        | cons y ys =>
          refine ⟨hR.1 H enc n _ y (by simpa using hf 0 f rfl), ih Rs ys (by simpa using hl) hR.2 fun i f' hf' => by simpa using hf (i + 1) f' (by simpa using hf')⟩
  refine key fs.toList Rs xs (by simpa using h2) h fun i f hf => h3 i f (by simpa using hf)
theorem Rds.slice {α : Type} [Inhabited α] {e : TypeId} {sz : Nat} (ht : P.underlying t = some (.slice e)) (hsz : P.cellsOf e = sz) (h0 : 0 < sz) (cells : α → List Value) (hlen : ∀ x, (cells x).length = sz) (q : α → Prop) (he : Rds P w e fun cs => ∃ y, cs = cells y ∧ q y) :
    Rds P w t fun cs => ∃ v ys, cs = [v] ∧ Lst (All w) sz cells v ys ∧ ∀ y ∈ ys, q y := fun H enc fuel cs x hx => by
  rcases Deep.open_slice ht hx with ⟨h1, _⟩ | ⟨a, len, cap, m, n, D, Pl, h1, _, h3, h4, h5, _, h6⟩
  · exact ⟨_, [], h1, Lst.nil _ _ _, fun y hy => by cases hy⟩
  · simp only [if_true] at h5
    subst h5
    obtain ⟨f, hf⟩ := Deep.choose_lt (α := α) (n := len) (p := fun i y => w.cells? 0 (a.add (i * P.cellsOf e)) (P.cellsOf e) = some (cells y) ∧ q y) (fun i hi => by
      obtain ⟨cs', e1, e2⟩ := h6 i (by omega)
      obtain ⟨y, e3, e4⟩ := he H enc n cs' _ e2
      exact ⟨y, by rw [e1, e3], e4⟩)
    refine ⟨_, (List.range len).map f, h1, ?_, fun y hy => ?_⟩
    · have hl : ((List.range len).map f).length = len := by simp
      have hget : ∀ i, i < len → ((List.range len).map f)[i]? = some (f i) := fun i hi => by simp [hi]
      refine ⟨by rw [flat_len hlen], by rw [hl]; omega, some a, m, by rw [hl], by rw [hl]; exact h3, fun hp => ?_⟩
      rw [hl] at hp
      have hcell : ∀ i k, i < len → k < sz → w.cell? (a.add (i * sz + k)) = (cells (f i))[k]? := fun i k hi hk => by
        obtain ⟨_, _, e3⟩ := World.cells?_some (hf i hi).1
        rw [hsz] at e3
        have := e3 k hk
        rwa [Deep.add_add] at this
      have hsp : a.spot = none := by
        have h7 := hcell 0 0 hp h0
        have hk : 0 < (cells (f 0)).length := by rw [hlen]; exact h0
        rw [List.getElem?_eq_getElem hk] at h7
        simpa [Addr.add] using World.cell?_spot h7
      obtain ⟨b, off, sp⟩ := a
      simp only at hsp
      subst hsp
      have hc0 := hcell 0 0 hp h0
      have hk0 : 0 < (cells (f 0)).length := by rw [hlen]; exact h0
      rw [List.getElem?_eq_getElem hk0] at hc0
      have hblk : ∃ c T fr, w.heap[b]? = some (.cells c T fr) := by
        unfold World.cell? at hc0
        rw [add_plain] at hc0
        simp only at hc0
        split at hc0
        · rename_i c T fr hb; exact ⟨c, T, fr, hb⟩
        all_goals cases hc0
      obtain ⟨c, T, fr, hb⟩ := hblk
      refine ⟨b, off, c, T, fr, rfl, hb, fun j u hu => ?_⟩
      have hj : j < len * sz := by
        rcases Nat.lt_or_ge j (((List.range len).map f).flatMap cells).length with h | h
        · rw [flat_len hlen, hl] at h; exact h
        · rw [List.getElem?_eq_none h] at hu; cases hu
      have hji : j / sz < len := Nat.div_lt_of_lt_mul (by rw [Nat.mul_comm]; exact hj)
      have hjk : j % sz < sz := Nat.mod_lt _ h0
      have hdm : j / sz * sz + j % sz = j := Nat.div_add_mod' j sz
      have h8 := hcell (j / sz) (j % sz) hji hjk
      rw [hdm, add_plain] at h8
      have h9 := flat_at hlen ((List.range len).map f) (j / sz) (j % sz) (f (j / sz)) (hget _ hji) hjk
      rw [hdm, hu] at h9
      rw [← h9] at h8
      simpa [World.cell?, hb] using h8
    · obtain ⟨i, hi, rfl⟩ := List.mem_map.1 hy
      exact (hf i (List.mem_range.1 hi)).2
end
end Go.Proofs.YtgdpjpmjcpieiaaGreat

/- What comes in: heights, views. No condition. -/
namespace Go.Proofs.YtgdpjpmjcpieiaaGreat
open Go Go.ChangeShapes Go.WideShapes Go.ChangeAt Go.RowKit
set_option linter.unusedVariables false
set_option linter.unusedSimpArgs false
set_option maxRecDepth 100000
theorem own : ownKnob Tryz.prog.godebug = none := by kernel_rfl
theorem laidOut : laidOutB Tryz.prog = true := by kernel_rfl
def inH (h : Ht) : Prop := inI h.tau ∧ inI h.oid ∧ inI h.r ∧ inI h.delta ∧ inI h.id
theorem cells23 : Tryz.prog.cellsOf 23 = 6 := by kernel_rfl
theorem cells72 : Tryz.prog.cellsOf 72 = 7 := by kernel_rfl
theorem cells3 : Tryz.prog.cellsOf 3 = 1 := by kernel_rfl
theorem cells4 : Tryz.prog.cellsOf 4 = 1 := by kernel_rfl
theorem rdInt {w : World} : Rds Tryz.prog w 3 fun cs => ∃ n, cs = [.int .i64 n] ∧ inI n := Rds.int Tryz.underlying3
theorem rdBool {w : World} : Rds Tryz.prog w 4 fun cs => ∃ b, cs = [.bool b] := Rds.bool Tryz.underlying4
theorem rdHt {w : World} : Rds Tryz.prog w 23 fun cs => ∃ h : Ht, cs = h.cells ∧ inH h :=
  (Rds.struct Tryz.underlying23 (Rs := [_, _, _, _, _, _]) ⟨rdBool, rdInt, rdInt, rdInt, rdInt, rdInt, trivial⟩).mono fun cs ⟨hl, h0, h1, h2, h3, h4, h5, _⟩ => by
    rw [cells23] at hl
    match cs, hl with
    | [c0, c1, c2, c3, c4, c5], _ =>
      simp only [cells3, cells4, List.drop_zero, List.drop_succ_cons, List.take_succ_cons, List.take_zero] at h0 h1 h2 h3 h4 h5
      obtain ⟨b, h0⟩ := h0
      obtain ⟨n1, h1, r1⟩ := h1
      obtain ⟨n2, h2, r2⟩ := h2
      obtain ⟨n3, h3, r3⟩ := h3
      obtain ⟨n4, h4, r4⟩ := h4
      obtain ⟨n5, h5, r5⟩ := h5
      injection h0 with h0; injection h1 with h1; injection h2 with h2; injection h3 with h3; injection h4 with h4; injection h5 with h5
      exact ⟨⟨b, n1, n2, n3, n4, n5⟩, by simp [h0, h1, h2, h3, h4, h5], r1, r2, r3, r4, r5⟩
theorem rdVw {w : World} : Rds Tryz.prog w 72 fun cs => ∃ v : Vw, cs = v.cells ∧ (inI v.id ∧ inH v.h) :=
  (Rds.struct Tryz.underlying72 (Rs := [_, _]) ⟨rdInt, rdHt, trivial⟩).mono fun cs ⟨hl, h0, h1, _⟩ => by
    rw [cells72] at hl
    match cs, hl with
    | [c0, c1, c2, c3, c4, c5, c6], _ =>
      simp only [cells3, cells23, List.drop_zero, List.drop_succ_cons, List.take_succ_cons, List.take_zero] at h0 h1
      obtain ⟨n, h0, r0⟩ := h0
      obtain ⟨h, h1, r1⟩ := h1
      injection h0 with h0
      injection h1 with h1 g; injection g with h2 g; injection g with h3 g; injection g with h4 g; injection g with h5 g; injection g with h6 g
      exact ⟨⟨n, h⟩, by simp [h0, h1, h2, h3, h4, h5, h6], r0, r1⟩
instance : Inhabited Vw := ⟨z0V⟩
theorem rdVws {w : World} : Rds Tryz.prog w 24 fun cs => ∃ v xs, cs = [v] ∧ Vws (All w) v xs ∧ ∀ x ∈ xs, inI x.id ∧ inH x.h :=
  Rds.slice Tryz.underlying24 cells72 (by decide) Vw.cells Vw.len _ rdVw
end Go.Proofs.YtgdpjpmjcpieiaaGreat

/- What maintenance says: the document's answer. No condition. -/
namespace Go.Proofs.YtgdpjpmjcpieiaaGreat
open Go
set_option linter.unusedVariables false
set_option linter.unusedSimpArgs false
set_option maxRecDepth 100000
set_option maxHeartbeats 0
theorem refCase_spec {g : Gl} {D : Dict} {M : MList} {a : Value} {xs : List Vw} (own : Ht) (now : Int) (lost : Bool) (hn : xs.length ≤ 1000) (ha : Vws D a xs) :
    Gives Tryz.prog g 108 [.agg (Ht.cells own).toArray, a, .int .i64 now, .bool lost] D M (caseOut (caseV own xs now lost)) := by
  have hle : Le D D := Le.rfl'
  refine Gives.enter Tryz.func108 rfl Tryz.ntmps108 ?_; refine R.sq ?_; refine R.rg ?_; refine R.bxA (fun b4 hb4 => ?_); refine R.alA Tryz.zeroValue23 (fun b8 hb8 => ?_); refine R.as ?_; refine R.as ?_; refine R.nl ?_; refine R.hs (e' := [(1, _), (2, _), (3, _), (4, _), (8, _)]) ?_; refine R.sq ?_; refine R.sq ?_; refine R.rg ?_; refine R.lA 6 Tryz.isAgg23 Tryz.sizeOf23 ?_; refine R.cg Tryz.call47 (refRight_spec own) ?_; refine R.nt ?_; refine R.mv ?_; refine R.gd (fun zg3 => ?_) (fun zg3 => ?_)
  ·refine R.mv ?_; refine R.gY (zg3) ?_; refine R.cg Tryz.call48 (refVRight_spec ha) ?_; refine R.gY (zg3) ?_; refine R.nt ?_; refine R.pF (zg3) ?_; refine R.mv ?_; refine R.gd (fun zg4 => ?_) (fun zg4 => ?_)
   ·refine R.mv ?_; refine R.gY (zg4) ?_; refine R.cm ?_; refine R.pF (zg4) ?_; refine R.mv ?_; refine R.gd (fun zg5 => ?_) (fun zg5 => ?_)
    ·refine R.mv ?_; refine R.gY (zg5) ?_; refine R.cm ?_; refine R.pF (zg5) ?_; refine R.nl ?_; refine R.hs (e' := [(1, _), (2, _), (3, _), (4, _), (8, _), (40, _)]) ?_; refine R.cd (fun zc6 => ?_) (fun zc6 => ?_)
     ·
      have hok : okCase own xs now = false := by simp only [okCase]; simp_all <;> omega
      have hz : caseV own xs now lost = (z0H, 0, 1) := by simp [caseV, hok]
      refine R.sq ?_; refine R.rg ?_; refine R.bd Tryz.zeroValue23 places23 ?_; refine R.st Tryz.sizeOf23 ?_; refine R.as ?_; refine R.as ?_; refine R.nl ?_; refine R.hs (e' := [(8, _), (9, _), (10, _)]) ?_; exact R.rl (RV.a Tryz.isAgg23 Tryz.sizeOf23 (RV.t (RV.t .nil))) 2 hle (by first | (rw [hz]; done) | (rw [hz]; rfl))
     ·
      have hok : okCase own xs now = true := by simp only [okCase]; simp_all <;> omega
      refine Run.skip ?_; refine R.sq ?_; refine R.sq ?_; refine R.rg ?_; refine R.fa Tryz.runUnderlying23 Tryz.sizeOf4 ?_; refine R.ld Tryz.isAgg4 ?_; refine R.mv ?_; refine R.gd (fun zg7 => ?_) (fun zg7 => ?_)
      ·refine R.mv ?_; refine R.gY (zg7) ?_; refine R.lA 6 Tryz.isAgg23 Tryz.sizeOf23 ?_; refine R.gY (zg7) ?_; refine R.gt Tryz.call131 (refDowns_spec own hn ha) (fun zr3_5 zD8 hzD8 hzr3_5 => ?_)
       try replace hle := hle.mono hzD8
       try replace ha := ha.mono hzD8
       obtain ⟨zs, hzp, hzI⟩ := hzr3_5
       have hzl := hzp.length_eq
       refine R.gY (zg7) ?_; refine R.ll (hzI) Tryz.runUnderlying56 ?_; refine R.gY (zg7) ?_; refine R.cm ?_; refine R.pF (zg7) ?_; refine R.nl ?_; refine R.hs (e' := [(1, _), (2, _), (3, _), (4, _), (8, _), (50, _)]) ?_; refine R.cd (fun zc9 => ?_) (fun zc9 => ?_)
       ·
        have h0 : ruleIs own xs lost 0 = true := by simp only [ruleIs]; simp_all <;> omega
        have hz : caseV own xs now lost = (own, 0, 0) := (case_rule hok (by decide) upto0 h0).trans rfl
        refine R.sq ?_; refine R.rg ?_; refine R.lA 6 Tryz.isAgg23 Tryz.sizeOf23 ?_; refine R.st Tryz.sizeOf23 ?_; refine R.as ?_; refine R.as ?_; refine R.nl ?_; refine R.hs (e' := [(8, _), (9, _), (10, _)]) ?_; exact R.rl (RV.a Tryz.isAgg23 Tryz.sizeOf23 (RV.t (RV.t .nil))) 2 hle (by first | (rw [hz]; done) | (rw [hz]; rfl))
       ·
        have h0 : ruleIs own xs lost 0 = false := by simp only [ruleIs]; simp_all <;> omega
        have hp1 := upto upto0 h0
        refine Run.skip ?_; refine R.sq ?_; refine R.rg ?_; refine R.fa Tryz.runUnderlying23 Tryz.sizeOf3 ?_; refine R.ld Tryz.isAgg3 ?_; refine R.as ?_; refine R.nl ?_; refine R.hs (e' := [(1, _), (2, _), (3, _), (8, _), (11, _)]) ?_; refine R.sq ?_; refine R.rg ?_; refine R.mv ?_; refine R.gt Tryz.call109 (refLevels_spec hn ha) (fun zr6_1 D1 hD1 hzr6_1 => ?_)
        try replace hle := hle.mono hD1
        try replace ha := ha.mono hD1
        try replace hzr3_5 := hzr3_5.mono hD1
        refine R.as ?_; refine R.nl ?_
        have hL := hzr6_1
        refine R.hs (e' := [(1, _), (2, _), (3, _), (8, _), (11, _), (12, _)]) ?_; refine R.sq ?_; refine R.sq ?_; refine R.rg ?_; refine R.mv ?_; refine R.ll (hL) Tryz.runUnderlying116 ?_; refine R.cm ?_; refine R.nl ?_; refine R.hs (e' := [(1, _), (2, _), (3, _), (8, _), (11, _), (12, _), (58, _)]) ?_; refine R.cd (fun zc10 => ?_) (fun zc10 => ?_)
        ·
         have h1 : ruleIs own xs lost 1 = true := by simp only [ruleIs]; simpa using zc10
         have hz : caseV own xs now lost = (nullH own.id, 6, 0) := (case_rule (i := 1) hok (by decide) hp1 h1).trans rfl
         refine R.sq ?_; refine R.rg ?_; refine R.mv ?_; refine R.cg Tryz.call41 (refNull_spec _) ?_; refine R.st Tryz.sizeOf23 ?_; refine R.as ?_; refine R.as ?_; refine R.nl ?_; refine R.hs (e' := [(8, _), (9, _), (10, _)]) ?_; exact R.rl (RV.a Tryz.isAgg23 Tryz.sizeOf23 (RV.t (RV.t .nil))) 2 hle (by first | (rw [hz]; done) | (rw [hz]; rfl))
        ·
         have h1 : ruleIs own xs lost 1 = false := by simp only [ruleIs]; simpa using zc10
         have hll := levelsV_len xs
         have hp2 := upto hp1 h1
         have hlv : 0 < (levelsV xs).length := by simp only [decide_eq_false_iff_not] at zc10; omega
         obtain ⟨y, hgy⟩ := get_of_lt (xs := levelsV xs) (i := (levelsV xs).length - 1) (by omega)
         obtain ⟨b9, o9, hI9, hc9⟩ := hL.at Lv.len hgy
         have hty := topL_at hgy
         refine Run.skip ?_; refine R.sq ?_; refine R.sq ?_; refine R.rg ?_; refine R.mv ?_; refine R.nl ?_; refine R.hs (e' := [(1, _), (2, _), (8, _), (11, _), (12, _), (61, _)]) ?_; refine R.cd (fun zc11 => ?_) (fun zc11 => ?_)
         ·
          have hz : caseV own xs now lost = caseAt (genO now own.id) 1 := (case_rule (i := 2) hok (by decide) hp2 zc11).trans rfl
          refine R.sq ?_; refine R.rg ?_; refine R.mv ?_; refine R.mv ?_; refine R.cg Tryz.call132 (refGen_spec now own.id) ?_; refine R.mv ?_; refine R.ex ?_; refine R.ex ?_; refine R.alA Tryz.zeroValue23 (fun zb12 hzb12 => ?_); refine R.st Tryz.sizeOf23 ?_; refine R.as ?_; refine R.nl ?_; refine R.hs (e' := [(8, _), (13, _), (14, _)]) ?_; refine R.sq ?_; refine R.rg ?_; refine R.lA 6 Tryz.isAgg23 Tryz.sizeOf23 ?_; refine R.mv ?_; refine R.cg Tryz.call133 (with_spec _ _ _) ?_; refine R.ex ?_; refine R.ex ?_; refine R.ex ?_; refine R.st Tryz.sizeOf23 ?_; refine R.as ?_; refine R.as ?_; refine R.nl ?_; refine R.hs (e' := [(8, _), (9, _), (10, _)]) ?_; exact R.rl (RV.a Tryz.isAgg23 Tryz.sizeOf23 (RV.t (RV.t .nil))) 3 hle (by first | (rw [hz]; done) | (rw [hz]; rfl))
         ·
          have hp3 := upto hp2 zc11
          refine Run.skip ?_; refine R.sq ?_; refine R.rg ?_; refine R.mv ?_; refine R.mv ?_; refine R.ll (hL) Tryz.runUnderlying116 ?_; refine R.sb ?_; refine R.ix (hI9) Tryz.runUnderlying116 Tryz.sizeOf28 ?_; refine R.lAD 3 Tryz.isAgg28 Tryz.sizeOf28 ?_; refine R.alA Tryz.zeroValue28 (fun b15 hb15 => ?_); refine R.st Tryz.sizeOf28 ?_; refine R.nl ?_; refine R.hs (e' := [(1, _), (2, _), (8, _), (11, _), (12, _), (15, _)]) ?_; refine R.sq ?_; refine R.sq ?_; refine R.rg ?_; refine R.mv ?_; refine R.ll (hL) Tryz.runUnderlying116 ?_; refine R.cm ?_; refine R.nl ?_; refine R.hs (e' := [(1, _), (2, _), (8, _), (11, _), (15, _), (82, _)]) ?_; refine R.cd (fun zc14 => ?_) (fun zc14 => ?_)
          ·
           have h3 : ruleIs own xs lost 3 = true := by simp only [ruleIs]; simp at zc14 ⊢; omega
           have hz : caseV own xs now lost = caseAt (atO (topL xs) (leastV xs (topL xs) - 1) own.id) 2 := (case_rule (i := 3) hok (by decide) hp3 h3).trans rfl
           rw [hty] at hz
           refine R.sq ?_; refine R.rg ?_; refine R.as ?_; refine R.nl ?_; refine R.hs (e' := [(1, _), (8, _), (11, _), (15, _), (16, _)]) ?_; refine R.sq ?_; refine R.sq ?_; refine R.rg ?_; refine R.as ?_; refine R.nl ?_; refine R.hs (e' := [(1, _), (8, _), (11, _), (15, _), (16, _), (17, _)]) ?_; refine Run.block ?_; refine Run.loop (ι := Nat × Int) [(1, _), (8, _), (11, _), (15, _)] (fun p => [(17, .int .i64 (p.1 : Int)), (16, .int .i64 p.2)]) (fun _ => D1) (fun _ => (b15, .cells (Lv.cells y).toArray 28 (0, 0)) :: (b8, .cells (Ht.cells z0H).toArray 23 (0, 0)) :: (b4, .cells (Ht.cells own).toArray 23 (0, 0)) :: M) (fun p => p.1 ≤ xs.length ∧ p.2 = (xs.take p.1).foldl (leastStep y) 1099511627776) (fun p => xs.length - p.1) ((0, 1099511627776)) (by repeat (first | exact trivial | refine ⟨rfl, ?_⟩)) ?h0 (by repeat (first | exact trivial | refine ⟨rfl, ?_⟩)) (fun w hs => hs) ?_
           case h0 => exact ⟨Nat.zero_le _, rfl⟩
           rintro ⟨i, o⟩ ⟨hi, hpre⟩; refine R.sq ?_; refine R.sq ?_; refine R.rg ?_; refine R.mv ?_; refine R.mv ?_; refine R.ll (ha) Tryz.runUnderlying24 ?_; refine R.cm ?_; refine R.nl ?_; refine R.hs (e' := [(1, _), (8, _), (11, _), (15, _), (16, _), (17, _), (86, _)]) ?_; refine R.cd (fun zc15 => ?_) (fun zc15 => ?_)
           ·
            have hlt : i < xs.length := by simp at zc15; omega
            obtain ⟨x, hgx⟩ := get_of_lt hlt
            obtain ⟨b1, o1, hI1, hc1⟩ := ha.at Vw.len hgx
            refine Run.skip ?_; refine R.sq ?_; refine Run.block ?_; refine R.sq ?_; refine R.rg ?_; refine R.mv ?_; refine R.mv ?_; refine R.ix (hI1) Tryz.runUnderlying24 Tryz.sizeOf72 ?_; refine R.fa Tryz.runUnderlying72 Tryz.sizeOf23 ?_; refine R.lAD 6 Tryz.isAgg23 Tryz.sizeOf23 ?_; refine R.alA Tryz.zeroValue23 (fun zb16 hzb16 => ?_); refine R.st Tryz.sizeOf23 ?_; refine R.nl ?_; refine R.hs (e' := [(1, _), (8, _), (11, _), (15, _), (16, _), (17, _), (18, _)]) ?_; refine R.sq ?_
            rcases Bool.eq_false_or_eq_true (toldH x.h) with zg17 | zg17
            ·
             rcases Bool.eq_false_or_eq_true (decide ((lvlH x.h).tau = y.tau ∧ (lvlH x.h).oid = y.oid ∧ (lvlH x.h).r = y.r)) with zg18 | zg18
             ·refine Run.drawC Grow.eq 12 [(1, _), (8, _), (11, _), (15, _), (16, _), (17, _), (18, _)] mix (by kernel_rfl) (by repeat (first | exact trivial | refine ⟨rfl, ?_⟩)) ?_; apply TC.val []; exact rfl; kernel_rfl
              ·rintro _ rfl ; refine R.lA 6 Tryz.isAgg23 Tryz.sizeOf23 ?_; refine R.nl ?_; exact Run.loc rfl rfl rfl
              apply TC.val [0]; exact rfl; kernel_rfl
              ·rintro _ rfl _ rfl; refine R.cg Tryz.call111 (refTold_spec _) ?_; refine R.nl ?_; exact Run.loc rfl rfl rfl
              apply TC.val [0]; exact rfl; kernel_rfl
              ·rintro _ rfl _ rfl; refine R.mv ?_; refine R.nl ?_; exact Run.loc rfl rfl rfl
              apply TC.val [0]; exact rfl; kernel_rfl
              ·rintro _ rfl _ rfl; refine R.gY (zg17) ?_; refine R.lA 6 Tryz.isAgg23 Tryz.sizeOf23 ?_; refine R.nl ?_; exact Run.loc rfl rfl rfl
              apply TC.val [1, 0]; exact rfl; kernel_rfl
              ·rintro _ rfl _ rfl _ rfl; refine R.gY (zg17) ?_; refine R.cg Tryz.call112 (refLvl_spec _) ?_; refine R.nl ?_; exact Run.loc rfl rfl rfl
              apply TC.val [2]; exact rfl; kernel_rfl
              ·rintro _ rfl _ rfl; refine R.gY (zg17) ?_; refine R.lA 3 Tryz.isAgg28 Tryz.sizeOf28 ?_; refine R.nl ?_; exact Run.loc rfl rfl rfl
              apply TC.val [3, 1, 0]; exact rfl; kernel_rfl
              ·rintro _ rfl _ rfl _ rfl _ rfl; refine R.gY (zg17) ?_; refine R.ea Tryz.eqGuardType28 (eqAt28 _ _ _ _ _ _) ?_; refine R.nl ?_; exact Run.loc rfl rfl rfl
              apply TC.val [4, 0]; exact rfl; kernel_rfl
              ·rintro _ rfl _ rfl _ rfl; refine R.pT (zg17) ?_; refine R.nl ?_; exact Run.loc rfl rfl rfl
              apply TC.val [0]; exact rfl; kernel_rfl
              ·rintro _ rfl _ rfl; refine R.mv ?_; refine R.nl ?_; exact Run.loc rfl rfl rfl
              apply TC.val [0]; exact rfl; kernel_rfl
              ·rintro _ rfl _ rfl; refine R.gY (zg18) ?_; refine R.fa Tryz.runUnderlying23 Tryz.sizeOf3 ?_; refine R.nl ?_; exact Run.loc rfl rfl rfl
              apply TC.val [1, 0]; exact rfl; kernel_rfl
              ·rintro _ rfl _ rfl _ rfl; refine R.gY (zg18) ?_; refine R.ld Tryz.isAgg3 ?_; refine R.nl ?_; exact Run.loc rfl rfl rfl
              apply TC.val [2]; exact rfl; kernel_rfl
              ·rintro _ rfl _ rfl; refine R.gY (zg18) ?_; refine R.mv ?_; refine R.nl ?_; exact Run.loc rfl rfl rfl
              refine TC.fin (by rfl) ?_; rintro _ rfl _ rfl _ rfl _ rfl _ rfl _ rfl _ rfl _ rfl _ rfl _ rfl _ rfl _ rfl _ rfl; refine R.gY (zg18) ?_; refine R.cm ?_; refine R.pT (zg18) ?_; refine R.nl ?_; refine R.hs (e' := [(1, _), (8, _), (11, _), (15, _), (16, _), (17, _), (18, _), (107, _)]) ?_; refine R.cd (fun zc32 => ?_) (fun zc32 => ?_)
              ·refine R.rg ?_; refine R.fa Tryz.runUnderlying23 Tryz.sizeOf3 ?_; refine R.ld Tryz.isAgg3 ?_; refine R.as ?_; refine R.nl ?_; refine R.hs (e' := [(1, _), (8, _), (11, _), (15, _), (16, _), (17, _)]) ?_; refine Run.endBlock ?_; refine R.rg ?_; refine R.mv ?_; refine R.ad ?_; refine R.as ?_; refine R.nl ?_; refine R.hs (e' := [(1, _), (8, _), (11, _), (15, _), (16, _), (17, _)]) ?_; refine Run.again (i + 1, _) ⟨by simp; omega, fold_step hgx hpre ?hf⟩ (by simp; omega) (by repeat (first | exact trivial | refine ⟨rfl, ?_⟩)) (fun w hs => hs.drop 1)
               case hf => clear hpre; simp only [leastStep]; simp_all [Lv.ext'] <;> (try (intros; omega)) <;> (try grind)
              ·refine Run.skip ?_; refine Run.endBlock ?_; refine R.rg ?_; refine R.mv ?_; refine R.ad ?_; refine R.as ?_; refine R.nl ?_; refine R.hs (e' := [(1, _), (8, _), (11, _), (15, _), (16, _), (17, _)]) ?_; refine Run.again (i + 1, _) ⟨by simp; omega, fold_step hgx hpre ?hf⟩ (by simp; omega) (by repeat (first | exact trivial | refine ⟨rfl, ?_⟩)) (fun w hs => hs.drop 1)
               case hf => clear hpre; simp only [leastStep]; simp_all [Lv.ext'] <;> (try (intros; omega)) <;> (try grind)
             ·refine Run.drawC Grow.eq 12 [(1, _), (8, _), (11, _), (15, _), (16, _), (17, _), (18, _)] mix (by kernel_rfl) (by repeat (first | exact trivial | refine ⟨rfl, ?_⟩)) ?_; apply TC.val []; exact rfl; kernel_rfl
              ·rintro _ rfl ; refine R.lA 6 Tryz.isAgg23 Tryz.sizeOf23 ?_; refine R.nl ?_; exact Run.loc rfl rfl rfl
              apply TC.val [0]; exact rfl; kernel_rfl
              ·rintro _ rfl _ rfl; refine R.cg Tryz.call111 (refTold_spec _) ?_; refine R.nl ?_; exact Run.loc rfl rfl rfl
              apply TC.val [0]; exact rfl; kernel_rfl
              ·rintro _ rfl _ rfl; refine R.mv ?_; refine R.nl ?_; exact Run.loc rfl rfl rfl
              apply TC.val [0]; exact rfl; kernel_rfl
              ·rintro _ rfl _ rfl; refine R.gY (zg17) ?_; refine R.lA 6 Tryz.isAgg23 Tryz.sizeOf23 ?_; refine R.nl ?_; exact Run.loc rfl rfl rfl
              apply TC.val [1, 0]; exact rfl; kernel_rfl
              ·rintro _ rfl _ rfl _ rfl; refine R.gY (zg17) ?_; refine R.cg Tryz.call112 (refLvl_spec _) ?_; refine R.nl ?_; exact Run.loc rfl rfl rfl
              apply TC.val [2]; exact rfl; kernel_rfl
              ·rintro _ rfl _ rfl; refine R.gY (zg17) ?_; refine R.lA 3 Tryz.isAgg28 Tryz.sizeOf28 ?_; refine R.nl ?_; exact Run.loc rfl rfl rfl
              apply TC.val [3, 1, 0]; exact rfl; kernel_rfl
              ·rintro _ rfl _ rfl _ rfl _ rfl; refine R.gY (zg17) ?_; refine R.ea Tryz.eqGuardType28 (eqAt28 _ _ _ _ _ _) ?_; refine R.nl ?_; exact Run.loc rfl rfl rfl
              apply TC.val [4, 0]; exact rfl; kernel_rfl
              ·rintro _ rfl _ rfl _ rfl; refine R.pT (zg17) ?_; refine R.nl ?_; exact Run.loc rfl rfl rfl
              apply TC.val [0]; exact rfl; kernel_rfl
              ·rintro _ rfl _ rfl; refine R.mv ?_; refine R.nl ?_; exact Run.loc rfl rfl rfl
              apply TC.val [0]; exact rfl; kernel_rfl
              ·rintro _ rfl _ rfl; refine R.gF (zg18) ?_; refine R.nl ?_; exact Run.loc rfl rfl rfl
              apply TC.val [1, 0]; exact rfl; kernel_rfl
              ·rintro _ rfl _ rfl _ rfl; refine R.gF (zg18) ?_; refine R.nl ?_; exact Run.loc rfl rfl rfl
              apply TC.val [2]; exact rfl; kernel_rfl
              ·rintro _ rfl _ rfl; refine R.gF (zg18) ?_; refine R.nl ?_; exact Run.loc rfl rfl rfl
              refine TC.fin (by rfl) ?_; rintro _ rfl _ rfl _ rfl _ rfl _ rfl _ rfl _ rfl _ rfl _ rfl _ rfl _ rfl _ rfl _ rfl; refine R.gF (zg18) ?_; refine R.pF (zg18) ?_; refine R.nl ?_; refine R.hs (e' := [(1, _), (8, _), (11, _), (15, _), (16, _), (17, _), (18, _), (107, _)]) ?_; refine R.cF (rfl) ?_; refine Run.skip ?_; refine Run.endBlock ?_; refine R.rg ?_; refine R.mv ?_; refine R.ad ?_; refine R.as ?_; refine R.nl ?_; refine R.hs (e' := [(1, _), (8, _), (11, _), (15, _), (16, _), (17, _)]) ?_; refine Run.again (i + 1, _) ⟨by simp; omega, fold_step hgx hpre ?hf⟩ (by simp; omega) (by repeat (first | exact trivial | refine ⟨rfl, ?_⟩)) (fun w hs => hs.drop 1)
              case hf => clear hpre; simp only [leastStep]; simp_all [Lv.ext'] <;> (try (intros; omega)) <;> (try grind)
            ·refine Run.drawC Grow.eq 12 [(1, _), (8, _), (11, _), (15, _), (16, _), (17, _), (18, _)] mix (by kernel_rfl) (by repeat (first | exact trivial | refine ⟨rfl, ?_⟩)) ?_; apply TC.val []; exact rfl; kernel_rfl
             ·rintro _ rfl ; refine R.lA 6 Tryz.isAgg23 Tryz.sizeOf23 ?_; refine R.nl ?_; exact Run.loc rfl rfl rfl
             apply TC.val [0]; exact rfl; kernel_rfl
             ·rintro _ rfl _ rfl; refine R.cg Tryz.call111 (refTold_spec _) ?_; refine R.nl ?_; exact Run.loc rfl rfl rfl
             apply TC.val [0]; exact rfl; kernel_rfl
             ·rintro _ rfl _ rfl; refine R.mv ?_; refine R.nl ?_; exact Run.loc rfl rfl rfl
             apply TC.val [0]; exact rfl; kernel_rfl
             ·rintro _ rfl _ rfl; refine R.gF (zg17) ?_; refine R.nl ?_; exact Run.loc rfl rfl rfl
             apply TC.val [1, 0]; exact rfl; kernel_rfl
             ·rintro _ rfl _ rfl _ rfl; refine R.gF (zg17) ?_; refine R.nl ?_; exact Run.loc rfl rfl rfl
             apply TC.val [2]; exact rfl; kernel_rfl
             ·rintro _ rfl _ rfl; refine R.gF (zg17) ?_; refine R.nl ?_; exact Run.loc rfl rfl rfl
             apply TC.val [3, 1, 0]; exact rfl; kernel_rfl
             ·rintro _ rfl _ rfl _ rfl _ rfl; refine R.gF (zg17) ?_; refine R.nl ?_; exact Run.loc rfl rfl rfl
             apply TC.val [4, 0]; exact rfl; kernel_rfl
             ·rintro _ rfl _ rfl _ rfl; refine R.pF (zg17) ?_; refine R.nl ?_; exact Run.loc rfl rfl rfl
             apply TC.val [0]; exact rfl; kernel_rfl
             ·rintro _ rfl _ rfl; refine R.mv ?_; refine R.nl ?_; exact Run.loc rfl rfl rfl
             apply TC.val [0]; exact rfl; kernel_rfl
             ·rintro _ rfl _ rfl; refine R.gF (rfl) ?_; refine R.nl ?_; exact Run.loc rfl rfl rfl
             apply TC.val [1, 0]; exact rfl; kernel_rfl
             ·rintro _ rfl _ rfl _ rfl; refine R.gF (rfl) ?_; refine R.nl ?_; exact Run.loc rfl rfl rfl
             apply TC.val [2]; exact rfl; kernel_rfl
             ·rintro _ rfl _ rfl; refine R.gF (rfl) ?_; refine R.nl ?_; exact Run.loc rfl rfl rfl
             refine TC.fin (by rfl) ?_; rintro _ rfl _ rfl _ rfl _ rfl _ rfl _ rfl _ rfl _ rfl _ rfl _ rfl _ rfl _ rfl _ rfl; refine R.gF (rfl) ?_; refine R.pF (rfl) ?_; refine R.nl ?_; refine R.hs (e' := [(1, _), (8, _), (11, _), (15, _), (16, _), (17, _), (18, _), (107, _)]) ?_; refine R.cF (rfl) ?_; refine Run.skip ?_; refine Run.endBlock ?_; refine R.rg ?_; refine R.mv ?_; refine R.ad ?_; refine R.as ?_; refine R.nl ?_; refine R.hs (e' := [(1, _), (8, _), (11, _), (15, _), (16, _), (17, _)]) ?_; refine Run.again (i + 1, _) ⟨by simp; omega, fold_step hgx hpre ?hf⟩ (by simp; omega) (by repeat (first | exact trivial | refine ⟨rfl, ?_⟩)) (fun w hs => hs.drop 1)
             case hf => clear hpre; simp only [leastStep]; simp_all [Lv.ext'] <;> (try (intros; omega)) <;> (try grind)
           ·
            have hzo : leastV xs y = o := by simp at zc15 hpre hi; rw [hpre, List.take_of_length_le (by omega)]; rfl
            have hrg := leastV_range xs y
            rw [hzo] at hz
            rw [hzo] at hrg
            refine Run.exit rfl ?_; refine R.sq ?_; refine R.rg ?_; refine R.lA 3 Tryz.isAgg28 Tryz.sizeOf28 ?_; refine R.mv ?_; refine R.sb ?_; refine R.mv ?_; refine R.cg Tryz.call114 (refAt_spec y (o - 1) own.id) ?_; refine R.mv ?_; refine R.ex ?_; refine R.ex ?_; refine R.alA Tryz.zeroValue23 (fun zb59 hzb59 => ?_); refine R.st Tryz.sizeOf23 ?_; refine R.as ?_; refine R.nl ?_; refine R.hs (e' := [(8, _), (19, _), (20, _)]) ?_; refine R.sq ?_; refine R.rg ?_; refine R.lA 6 Tryz.isAgg23 Tryz.sizeOf23 ?_; refine R.mv ?_; refine R.cg Tryz.call133 (with_spec _ _ _) ?_; refine R.ex ?_; refine R.ex ?_; refine R.ex ?_; refine R.st Tryz.sizeOf23 ?_; refine R.as ?_; refine R.as ?_; refine R.nl ?_; refine R.hs (e' := [(8, _), (9, _), (10, _)]) ?_; exact R.rl (RV.a Tryz.isAgg23 Tryz.sizeOf23 (RV.t (RV.t .nil))) 4 hle (by first | (rw [hz]; done) | (rw [hz]; rfl))
          ·
           have h3 : ruleIs own xs lost 3 = false := by simp only [ruleIs]; simp at zc14 ⊢; omega
           have hp4 := upto hp3 h3
           refine Run.skip ?_; refine R.sq ?_; refine R.sq ?_; refine R.rg ?_; refine R.fa Tryz.runUnderlying28 Tryz.sizeOf3 ?_; refine R.ld Tryz.isAgg3 ?_; refine R.cm ?_; refine R.nl ?_; refine R.hs (e' := [(2, _), (8, _), (11, _), (15, _), (126, _)]) ?_; refine R.cd (fun zc60 => ?_) (fun zc60 => ?_)
           ·
            have h4 : ruleIs own xs lost 4 = true := by simp only [ruleIs]; rw [hty]; simpa using zc60
            have hz : caseV own xs now lost = caseAt (atO ⟨(topL xs).tau, (topL xs).oid, 1⟩ 0 own.id) 3 := (case_rule (i := 4) hok (by decide) hp4 h4).trans rfl
            rw [hty] at hz
            refine R.sq ?_; refine R.rg ?_; refine R.fa Tryz.runUnderlying28 Tryz.sizeOf3 ?_; refine R.ld Tryz.isAgg3 ?_; refine R.fa Tryz.runUnderlying28 Tryz.sizeOf3 ?_; refine R.ld Tryz.isAgg3 ?_; refine R.bd Tryz.zeroValue28 places28 ?_; refine R.mv ?_; refine R.cg Tryz.call114 (refAt_spec ⟨y.tau, y.oid, 1⟩ 0 own.id) ?_; refine R.mv ?_; refine R.ex ?_; refine R.ex ?_; refine R.alA Tryz.zeroValue23 (fun zb61 hzb61 => ?_); refine R.st Tryz.sizeOf23 ?_; refine R.as ?_; refine R.nl ?_; refine R.hs (e' := [(8, _), (21, _), (22, _)]) ?_; refine R.sq ?_; refine R.rg ?_; refine R.lA 6 Tryz.isAgg23 Tryz.sizeOf23 ?_; refine R.mv ?_; refine R.cg Tryz.call133 (with_spec _ _ _) ?_; refine R.ex ?_; refine R.ex ?_; refine R.ex ?_; refine R.st Tryz.sizeOf23 ?_; refine R.as ?_; refine R.as ?_; refine R.nl ?_; refine R.hs (e' := [(8, _), (9, _), (10, _)]) ?_
            exact R.rl (RV.a Tryz.isAgg23 Tryz.sizeOf23 (RV.t (RV.t .nil))) 4 hle (by first | (rw [hz]; done) | (rw [hz]; rfl))
           ·
            have h4 : ruleIs own xs lost 4 = false := by simp only [ruleIs]; rw [hty]; simpa using zc60
            have hp5 := upto hp4 h4
            refine Run.skip ?_; refine R.sq ?_; refine R.sq ?_; refine R.rg ?_; refine R.fa Tryz.runUnderlying28 Tryz.sizeOf3 ?_; refine R.ld Tryz.isAgg3 ?_; refine R.mv ?_; refine R.cm ?_; refine R.nl ?_; refine R.hs (e' := [(2, _), (8, _), (11, _), (146, _)]) ?_; refine R.cd (fun zc62 => ?_) (fun zc62 => ?_)
            ·
             have h5 : ruleIs own xs lost 5 = true := by simp only [ruleIs]; rw [hty]; simpa using zc62
             have hz : caseV own xs now lost = (nullH own.id, 4, 0) := (case_rule (i := 5) hok (by decide) hp5 h5).trans rfl
             refine R.sq ?_; refine R.rg ?_; refine R.mv ?_; refine R.cg Tryz.call41 (refNull_spec _) ?_; refine R.st Tryz.sizeOf23 ?_; refine R.as ?_; refine R.as ?_; refine R.nl ?_; refine R.hs (e' := [(8, _), (9, _), (10, _)]) ?_; exact R.rl (RV.a Tryz.isAgg23 Tryz.sizeOf23 (RV.t (RV.t .nil))) 3 hle (by first | (rw [hz]; done) | (rw [hz]; rfl))
            ·
             have h5 : ruleIs own xs lost 5 = false := by simp only [ruleIs]; rw [hty]; simpa using zc62
             have hz : caseV own xs now lost = caseAt (genO now own.id) 5 := (case_rule (i := 6) hok (by decide) (upto hp5 h5) rfl).trans rfl
             refine Run.skip ?_; refine R.sq ?_; refine R.rg ?_; refine R.mv ?_; refine R.mv ?_; refine R.cg Tryz.call132 (refGen_spec now own.id) ?_; refine R.mv ?_; refine R.ex ?_; refine R.ex ?_; refine R.alA Tryz.zeroValue23 (fun zb63 hzb63 => ?_); refine R.st Tryz.sizeOf23 ?_; refine R.as ?_; refine R.nl ?_; refine R.hs (e' := [(8, _), (23, _), (24, _)]) ?_; refine R.sq ?_; refine R.rg ?_; refine R.lA 6 Tryz.isAgg23 Tryz.sizeOf23 ?_; refine R.mv ?_; refine R.cg Tryz.call133 (with_spec _ _ _) ?_; refine R.ex ?_; refine R.ex ?_; refine R.ex ?_; refine R.st Tryz.sizeOf23 ?_; refine R.as ?_; refine R.as ?_; refine R.nl ?_; refine R.hs (e' := [(8, _), (9, _), (10, _)]) ?_; exact R.rl (RV.a Tryz.isAgg23 Tryz.sizeOf23 (RV.t (RV.t .nil))) 4 hle (by first | (rw [hz]; done) | (rw [hz]; rfl))
      ·refine R.gF (zg7) ?_; refine R.gF (zg7) ?_; refine R.gF (zg7) ?_; refine R.gF (zg7) ?_; refine R.pT (zg7) ?_; refine R.nl ?_; refine R.hs (e' := [(1, _), (2, _), (3, _), (4, _), (8, _), (50, _)]) ?_; refine R.cT (rfl) ?_
       have h0 : ruleIs own xs lost 0 = true := by simp only [ruleIs]; simp_all <;> omega
       have hz : caseV own xs now lost = (own, 0, 0) := (case_rule hok (by decide) upto0 h0).trans rfl
       refine R.sq ?_; refine R.rg ?_; refine R.lA 6 Tryz.isAgg23 Tryz.sizeOf23 ?_; refine R.st Tryz.sizeOf23 ?_; refine R.as ?_; refine R.as ?_; refine R.nl ?_; refine R.hs (e' := [(8, _), (9, _), (10, _)]) ?_; exact R.rl (RV.a Tryz.isAgg23 Tryz.sizeOf23 (RV.t (RV.t .nil))) 2 hle (by first | (rw [hz]; done) | (rw [hz]; rfl))
    ·refine R.gF (zg5) ?_; refine R.pT (zg5) ?_; refine R.nl ?_; refine R.hs (e' := [(1, _), (2, _), (3, _), (4, _), (8, _), (40, _)]) ?_; refine R.cT (rfl) ?_
     have hok : okCase own xs now = false := by simp only [okCase]; simp_all <;> omega
     have hz : caseV own xs now lost = (z0H, 0, 1) := by simp [caseV, hok]
     refine R.sq ?_; refine R.rg ?_; refine R.bd Tryz.zeroValue23 places23 ?_; refine R.st Tryz.sizeOf23 ?_; refine R.as ?_; refine R.as ?_; refine R.nl ?_; refine R.hs (e' := [(8, _), (9, _), (10, _)]) ?_; exact R.rl (RV.a Tryz.isAgg23 Tryz.sizeOf23 (RV.t (RV.t .nil))) 2 hle (by first | (rw [hz]; done) | (rw [hz]; rfl))
   ·refine R.gF (zg4) ?_; refine R.pT (zg4) ?_; refine R.mv ?_; refine R.gF (rfl) ?_; refine R.gF (rfl) ?_; refine R.pT (rfl) ?_; refine R.nl ?_; refine R.hs (e' := [(1, _), (2, _), (3, _), (4, _), (8, _), (40, _)]) ?_; refine R.cT (rfl) ?_
    have hok : okCase own xs now = false := by simp only [okCase]; simp_all <;> omega
    have hz : caseV own xs now lost = (z0H, 0, 1) := by simp [caseV, hok]
    refine R.sq ?_; refine R.rg ?_; refine R.bd Tryz.zeroValue23 places23 ?_; refine R.st Tryz.sizeOf23 ?_; refine R.as ?_; refine R.as ?_; refine R.nl ?_; refine R.hs (e' := [(8, _), (9, _), (10, _)]) ?_; exact R.rl (RV.a Tryz.isAgg23 Tryz.sizeOf23 (RV.t (RV.t .nil))) 2 hle (by first | (rw [hz]; done) | (rw [hz]; rfl))
  ·refine R.gF (zg3) ?_; refine R.gF (zg3) ?_; refine R.pT (zg3) ?_; refine R.mv ?_; refine R.gF (rfl) ?_; refine R.gF (rfl) ?_; refine R.pT (rfl) ?_; refine R.mv ?_; refine R.gF (rfl) ?_; refine R.gF (rfl) ?_; refine R.pT (rfl) ?_; refine R.nl ?_; refine R.hs (e' := [(1, _), (2, _), (3, _), (4, _), (8, _), (40, _)]) ?_; refine R.cT (rfl) ?_
   have hok : okCase own xs now = false := by simp only [okCase]; simp_all <;> omega
   have hz : caseV own xs now lost = (z0H, 0, 1) := by simp [caseV, hok]
   refine R.sq ?_; refine R.rg ?_; refine R.bd Tryz.zeroValue23 places23 ?_; refine R.st Tryz.sizeOf23 ?_; refine R.as ?_; refine R.as ?_; refine R.nl ?_; refine R.hs (e' := [(8, _), (9, _), (10, _)]) ?_; exact R.rl (RV.a Tryz.isAgg23 Tryz.sizeOf23 (RV.t (RV.t .nil))) 2 hle (by first | (rw [hz]; done) | (rw [hz]; rfl))
end Go.Proofs.YtgdpjpmjcpieiaaGreat
