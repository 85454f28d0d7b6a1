/- The plain things that the program speaks of: heights, levels, objects, batches, acks. No condition. -/
import Derived.Test.YtgdpjpmjcpieiaaDraw
namespace Go.Proofs.Ytgdpjpmjcpieiaa
open Go
structure Ht where
  null : Bool
  tau : Int
  oid : Int
  r : Int
  delta : Int
  id : Int
  deriving DecidableEq, Inhabited
structure Lv where
  tau : Int
  oid : Int
  r : Int
  deriving DecidableEq, Inhabited
structure Ob where
  kind : Int
  dest : Int
  h : Ht
  l : Lv
  num : Int
  deriving DecidableEq, Inhabited
structure Ak where
  id : Int
  epoch : Int
  next : Int
  mask : Int
  deriving DecidableEq, Inhabited
abbrev Ht.cells (h : Ht) : List Value := [.bool h.null, .int .i64 h.tau, .int .i64 h.oid, .int .i64 h.r, .int .i64 h.delta, .int .i64 h.id]
abbrev Lv.cells (l : Lv) : List Value := [.int .i64 l.tau, .int .i64 l.oid, .int .i64 l.r]
abbrev Ob.cells (o : Ob) : List Value := [.int .i64 o.kind, .int .i64 o.dest, .bool o.h.null, .int .i64 o.h.tau, .int .i64 o.h.oid, .int .i64 o.h.r, .int .i64 o.h.delta, .int .i64 o.h.id, .int .i64 o.l.tau, .int .i64 o.l.oid, .int .i64 o.l.r, .int .i64 o.num]
abbrev Ak.cells (a : Ak) : List Value := [.int .i64 a.id, .int .i64 a.epoch, .int .i64 a.next, .int .i64 a.mask]
theorem Ob.ext' {a b : Ob} : a = b ↔ a.kind = b.kind ∧ a.dest = b.dest ∧ (a.h.null = b.h.null ∧ a.h.tau = b.h.tau ∧ a.h.oid = b.h.oid ∧ a.h.r = b.h.r ∧ a.h.delta = b.h.delta ∧ a.h.id = b.h.id) ∧ (a.l.tau = b.l.tau ∧ a.l.oid = b.l.oid ∧ a.l.r = b.l.r) ∧ a.num = b.num := by
  obtain ⟨k, d, ⟨n, t, o, r, dl, i⟩, ⟨t', o', r'⟩, m⟩ := a
  obtain ⟨k2, d2, ⟨n2, t2, o2, r2, dl2, i2⟩, ⟨t3, o3, r3⟩, m2⟩ := b
  simp
theorem Ht.ext' {a b : Ht} : a = b ↔ a.null = b.null ∧ a.tau = b.tau ∧ a.oid = b.oid ∧ a.r = b.r ∧ a.delta = b.delta ∧ a.id = b.id := by
  obtain ⟨n, t, o, r, dl, i⟩ := a
  obtain ⟨n2, t2, o2, r2, dl2, i2⟩ := b
  simp
theorem Ht.eta (h : Ht) : (⟨h.null, h.tau, h.oid, h.r, h.delta, h.id⟩ : Ht) = h := rfl
/-- P2: a height that is right -/
def okH (h : Ht) : Bool := decide (0 ≤ h.id ∧ h.id < 64 ∧ if h.null then h.tau = 0 ∧ h.oid = 0 ∧ h.r = 0 ∧ h.delta = 0 else 0 ≤ h.tau ∧ h.tau ≤ 4611686018427387903 ∧ 0 ≤ h.oid ∧ h.oid < 64 ∧ (h.r = 0 ∨ h.r = 1) ∧ -1099511627776 ≤ h.delta ∧ h.delta ≤ 1099511627776)
/-- P4: an object that is right -/
def okO (o : Ob) : Bool := decide (0 ≤ o.dest ∧ o.dest < 64 ∧
  ((o.kind = 1 ∧ o.l = ⟨0, 0, 0⟩ ∧ o.h = ⟨false, 0, 0, 0, 0, 0⟩ ∧ o.num = 0) ∨ (o.kind = 2 ∧ o.l = ⟨0, 0, 0⟩ ∧ o.num = 0 ∧ okH o.h = true) ∨
   (o.kind = 3 ∧ o.h = ⟨false, 0, 0, 0, 0, 0⟩ ∧ o.num = 0 ∧ okH ⟨false, o.l.tau, o.l.oid, o.l.r, 0, 0⟩ = true) ∨
   (o.kind = 4 ∧ o.l = ⟨0, 0, 0⟩ ∧ 0 ≤ o.num ∧ o.num ≤ 65535 ∧ okH o.h = true ∧ o.h.null = false)))
theorem Lv.ext' {a b : Lv} : a = b ↔ a.tau = b.tau ∧ a.oid = b.oid ∧ a.r = b.r := by
  obtain ⟨t, o, r⟩ := a
  obtain ⟨t2, o2, r2⟩ := b
  simp
/-- P2: known, and not Null -/
def toldH (h : Ht) : Bool := okH h && !h.null
structure Vw where
  id : Int
  h : Ht
  deriving DecidableEq, Inhabited
abbrev Vw.cells (v : Vw) : List Value := [.int .i64 v.id, .bool v.h.null, .int .i64 v.h.tau, .int .i64 v.h.oid, .int .i64 v.h.r, .int .i64 v.h.delta, .int .i64 v.h.id]
theorem Vw.ext' {a b : Vw} : a = b ↔ a.id = b.id ∧ (a.h.null = b.h.null ∧ a.h.tau = b.h.tau ∧ a.h.oid = b.h.oid ∧ a.h.r = b.h.r ∧ a.h.delta = b.h.delta ∧ a.h.id = b.h.id) := by
  obtain ⟨i, ⟨n, t, o, r, dl, i'⟩⟩ := a
  obtain ⟨i2, ⟨n2, t2, o2, r2, dl2, i2'⟩⟩ := b
  simp
/-- -1, 0 or 1 -/
def cmpI (a b : Int) : Int := if a < b then -1 else if b < a then 1 else 0
/-- the first that is not 0 -/
def orI : List Int → Int
  | [] => 0
  | x :: r => if x = 0 then orI r else x
def z0H : Ht := ⟨false, 0, 0, 0, 0, 0⟩
def z0V : Vw := ⟨0, z0H⟩
def lvlH (h : Ht) : Lv := if toldH h then ⟨h.tau, h.oid, h.r⟩ else ⟨0, 0, 0⟩
def ordL (a b : Lv) : Int := orI [cmpI a.tau b.tau, cmpI a.oid b.oid, cmpI a.r b.r]
def lessH (a b : Ht) : Bool := toldH a && toldH b && decide (orI [ordL (lvlH a) (lvlH b), cmpI a.delta b.delta, cmpI a.id b.id] < 0)
def errA (b : Bool) : Int := if b then 0 else 1
def atH (l : Lv) (delta id : Int) : Ht := ⟨false, l.tau, l.oid, l.r, delta, id⟩
def nullH (id : Int) : Ht := ⟨true, 0, 0, 0, 0, id⟩
/-- P12: element i of the views is right, next to the one ahead of it -/
def okV (v : Vw) : Bool := decide (0 ≤ v.id ∧ v.id < 64 ∧ v.h.id = v.id ∧ okH v.h = true)
def rAt (xs : List Vw) (i : Nat) : Bool := match xs[i]?, xs[i - 1]? with
  | some v, some u => okV v && (decide (i = 0) || decide (u.id < v.id))
  | _, _ => true
/-- P12: the views are right -/
def okVs (xs : List Vw) : Bool := (List.range xs.length).all (rAt xs)
theorem okVs_iff {xs : List Vw} : okVs xs = true ↔ ∀ i, i < xs.length → rAt xs i = true := by simp [okVs]
def lowStep (b : Option Vw) (v : Vw) : Option Vw := if toldH v.h && (b.isNone || lessH v.h (b.getD z0V).h) then some v else b
/-- the lowest one that is told -/
def lowV (xs : List Vw) : Option Vw := xs.foldl lowStep none
def leastStep (l : Lv) (n : Int) (v : Vw) : Int := if toldH v.h && decide (lvlH v.h = l) && decide (v.h.delta < n) then v.h.delta else n
def leastV (xs : List Vw) (l : Lv) : Int := xs.foldl (leastStep l) 1099511627776
end Go.Proofs.Ytgdpjpmjcpieiaa
