/- The rules once more, under short names, what can be reckoned left to be reckoned. No condition. -/
import Derived.Test.YtgdpjpmjcpieiaaDraw
namespace Go.Proofs.Ytgdpjpmjcpieiaa
open Go
set_option linter.unusedVariables false
section
variable {P : Program} {n : Nat} {Q : Exit → Act → World → Prop} {g : Gl} {k : List It} {e : Env} {D : Dict} {M : MList}
  {all : Array Oper} {rest : List Oper} {dst : Option Nat} {ty : TypeId} {pos : String} {af : Array Edge}
theorem R.sq {x y : Code} (h : Run P n Q g (.code x :: .code y :: k) e D M) : Run P n Q g (.code (.seq x y) :: k) e D M := Run.seq h
theorem R.rg {id : Nat} {l : List Oper} (h : Run P n Q g (.ops l.toArray l :: k) e D M) : Run P n Q g (.code (.region id l.toArray false) :: k) e D M := Run.region h
theorem R.nl (h : Run P n Q g k e D M) : Run P n Q g (.ops all [] :: k) e D M := Run.nilOps h
theorem R.hs {e' : Env} (h : Run P n Q g k e' D M) (hh : e.Has e' := by repeat (first | exact trivial | refine ⟨rfl, ?_⟩)) : Run P n Q g k e D M := Run.has hh h
theorem R.mv {x : Operand} {v : Value} (h : Run P n Q g (.ops all rest :: k) (e.put dst v) D M) (hx : e.ev x = some v := by rfl) (hd : dstOk n dst = true := by rfl) : Run P n Q g (.ops all (⟨dst, .move x, ty, pos, af, none⟩ :: rest) :: k) e D M := Run.move hx hd h
theorem R.as {x : Operand} {v : Value} (h : Run P n Q g (.ops all rest :: k) (e.put dst v) D M) (hx : e.ev x = some v := by rfl) (hd : dstOk n dst = true := by rfl) : Run P n Q g (.ops all (⟨dst, .assign x, ty, pos, af, none⟩ :: rest) :: k) e D M := Run.assign hx hd h
theorem R.pT {c x y : Operand} {b : Bool} {v : Value} (hb : b = true) (h : Run P n Q g (.ops all rest :: k) (e.put dst v) D M) (hc : e.ev c = some (.bool b) := by rfl) (hx : e.ev x = some v := by rfl) (hd : dstOk n dst = true := by rfl) :
    Run P n Q g (.ops all (⟨dst, .pick c x y, ty, pos, af, none⟩ :: rest) :: k) e D M := Run.pickT hc hb hx hd h
theorem R.pF {c x y : Operand} {b : Bool} {v : Value} (hb : b = false) (h : Run P n Q g (.ops all rest :: k) (e.put dst v) D M) (hc : e.ev c = some (.bool b) := by rfl) (hx : e.ev y = some v := by rfl) (hd : dstOk n dst = true := by rfl) :
    Run P n Q g (.ops all (⟨dst, .pick c x y, ty, pos, af, none⟩ :: rest) :: k) e D M := Run.pickF hc hb hx hd h
theorem R.nc {x : Operand} {a : Addr} (h : Run P n Q g (.ops all rest :: k) (e.put dst (.pointer (some a))) D M) (hx : e.ev x = some (.pointer (some a)) := by rfl) (hd : dstOk n dst = true := by rfl) :
    Run P n Q g (.ops all (⟨dst, .nilCheck x, ty, pos, af, none⟩ :: rest) :: k) e D M := Run.nilCheck hx hd h
theorem R.ncf {x : Operand} {f : FuncId} {c d : Array Value} (h : Run P n Q g (.ops all rest :: k) (e.put dst (.func (.func f) c d)) D M) (hx : e.ev x = some (.func (.func f) c d) := by rfl) (hd : dstOk n dst = true := by rfl) :
    Run P n Q g (.ops all (⟨dst, .nilCheck x, ty, pos, af, none⟩ :: rest) :: k) e D M := Run.nilCheckFn hx hd h
theorem R.nt {t : TypeId} {x : Operand} {b : Bool} (h : Run P n Q g (.ops all rest :: k) (e.put dst (.bool !b)) D M) (hx : e.ev x = some (.bool b) := by rfl) (hd : dstOk n dst = true := by rfl) :
    Run P n Q g (.ops all (⟨dst, .unOp .not t x, ty, pos, af, none⟩ :: rest) :: k) e D M := Run.not hx hd h
theorem R.mf {fn : Fn} {f c : List Operand} {vf vc : List Value} (h : Run P n Q g (.ops all rest :: k) (e.put dst (.func fn vf.toArray vc.toArray)) D M) (hf : e.evs f = some vf := by rfl) (hc : e.evs c = some vc := by rfl) (hd : dstOk n dst = true := by rfl) :
    Run P n Q g (.ops all (⟨dst, .makeFunc fn f.toArray c.toArray, ty, pos, af, none⟩ :: rest) :: k) e D M := Run.makeFunc hf hc hd h
theorem R.ex {x : Operand} {i : Nat} {vs : List Value} {v : Value} (h : Run P n Q g (.ops all rest :: k) (e.put dst v) D M) (hx : e.ev x = some (.tuple vs.toArray) := by rfl) (hi : vs[i]? = some v := by rfl) (hd : dstOk n dst = true := by rfl) :
    Run P n Q g (.ops all (⟨dst, .extract x i, ty, pos, af, none⟩ :: rest) :: k) e D M := Run.extract hx hi hd h
theorem R.cm {op : BinOp} {t t' : TypeId} {x y : Operand} {kd : IntKind} {a b : Int} {r : Bool} (h : Run P n Q g (.ops all rest :: k) (e.put dst (.bool r)) D M) (hx : e.ev x = some (.int kd a) := by rfl) (hy : e.ev y = some (.int kd b) := by rfl) (hr : cmpB op a b = some r := by rfl)
    (hd : dstOk n dst = true := by rfl) : Run P n Q g (.ops all (⟨dst, .binOp op t x y t', ty, pos, af, none⟩ :: rest) :: k) e D M := Run.cmp hx hy hr hd h
theorem R.ad {t t' : TypeId} {x y : Operand} {a b : Int} (h : Run P n Q g (.ops all rest :: k) (e.put dst (.int .i64 (a + b))) D M) (hx : e.ev x = some (.int .i64 a) := by rfl) (hy : e.ev y = some (.int .i64 b) := by rfl) (hr : -9223372036854775808 ≤ a + b ∧ a + b ≤ 9223372036854775807 := by first | omega | (dsimp only; omega))
    (hd : dstOk n dst = true := by rfl) : Run P n Q g (.ops all (⟨dst, .binOp .add t x y t', ty, pos, af, none⟩ :: rest) :: k) e D M := Run.add hx hy (wrap_i64 hr.1 hr.2) hd h
theorem R.sb {t t' : TypeId} {x y : Operand} {a b : Int} (h : Run P n Q g (.ops all rest :: k) (e.put dst (.int .i64 (a - b))) D M) (hx : e.ev x = some (.int .i64 a) := by rfl) (hy : e.ev y = some (.int .i64 b) := by rfl) (hr : -9223372036854775808 ≤ a - b ∧ a - b ≤ 9223372036854775807 := by first | omega | (dsimp only; omega))
    (hd : dstOk n dst = true := by rfl) : Run P n Q g (.ops all (⟨dst, .binOp .sub t x y t', ty, pos, af, none⟩ :: rest) :: k) e D M := Run.subt hx hy (wrap_i64 hr.1 hr.2) hd h
theorem R.ml {t t' : TypeId} {x y : Operand} {a b : Int} (h : Run P n Q g (.ops all rest :: k) (e.put dst (.int .i64 (a * b))) D M) (hx : e.ev x = some (.int .i64 a) := by rfl) (hy : e.ev y = some (.int .i64 b) := by rfl) (hr : -9223372036854775808 ≤ a * b ∧ a * b ≤ 9223372036854775807 := by first | omega | (dsimp only; omega))
    (hd : dstOk n dst = true := by rfl) : Run P n Q g (.ops all (⟨dst, .binOp .mul t x y t', ty, pos, af, none⟩ :: rest) :: k) e D M := Run.mul hx hy (wrap_i64 hr.1 hr.2) hd h
/-- of another kind: what it wraps to is told -/
theorem R.adw {t t' : TypeId} {x y : Operand} {kd : IntKind} {a b r : Int} (hr : kd.wrap (a + b) = r) (h : Run P n Q g (.ops all rest :: k) (e.put dst (.int kd r)) D M) (hx : e.ev x = some (.int kd a) := by rfl) (hy : e.ev y = some (.int kd b) := by rfl) (hd : dstOk n dst = true := by rfl) :
    Run P n Q g (.ops all (⟨dst, .binOp .add t x y t', ty, pos, af, none⟩ :: rest) :: k) e D M := Run.add hx hy hr hd h
theorem R.sbw {t t' : TypeId} {x y : Operand} {kd : IntKind} {a b r : Int} (hr : kd.wrap (a - b) = r) (h : Run P n Q g (.ops all rest :: k) (e.put dst (.int kd r)) D M) (hx : e.ev x = some (.int kd a) := by rfl) (hy : e.ev y = some (.int kd b) := by rfl) (hd : dstOk n dst = true := by rfl) :
    Run P n Q g (.ops all (⟨dst, .binOp .sub t x y t', ty, pos, af, none⟩ :: rest) :: k) e D M := Run.subt hx hy hr hd h
theorem R.mlw {t t' : TypeId} {x y : Operand} {kd : IntKind} {a b r : Int} (hr : kd.wrap (a * b) = r) (h : Run P n Q g (.ops all rest :: k) (e.put dst (.int kd r)) D M) (hx : e.ev x = some (.int kd a) := by rfl) (hy : e.ev y = some (.int kd b) := by rfl) (hd : dstOk n dst = true := by rfl) :
    Run P n Q g (.ops all (⟨dst, .binOp .mul t x y t', ty, pos, af, none⟩ :: rest) :: k) e D M := Run.mul hx hy hr hd h
theorem R.sr {t t' : TypeId} {x y : Operand} {kd ky : IntKind} {a b r : Int} (hr : a.fdiv (2 ^ (min b.toNat kd.bits)) = r) (h : Run P n Q g (.ops all rest :: k) (e.put dst (.int kd r)) D M) (hx : e.ev x = some (.int kd a) := by rfl) (hy : e.ev y = some (.int ky b) := by rfl) (h0 : 0 ≤ b := by first | omega | (dsimp only; omega)) (hd : dstOk n dst = true := by rfl) :
    Run P n Q g (.ops all (⟨dst, .binOp .shr t x y t', ty, pos, af, none⟩ :: rest) :: k) e D M := Run.shr hx hy h0 hr hd h
theorem R.sl {t t' : TypeId} {x y : Operand} {kd ky : IntKind} {a b r : Int} (hr : kd.wrap (a * 2 ^ (min b.toNat kd.bits)) = r) (h : Run P n Q g (.ops all rest :: k) (e.put dst (.int kd r)) D M) (hx : e.ev x = some (.int kd a) := by rfl) (hy : e.ev y = some (.int ky b) := by rfl) (h0 : 0 ≤ b := by first | omega | (dsimp only; omega)) (hd : dstOk n dst = true := by rfl) :
    Run P n Q g (.ops all (⟨dst, .binOp .shl t x y t', ty, pos, af, none⟩ :: rest) :: k) e D M := Run.shl hx hy h0 hr hd h
theorem R.an {t t' : TypeId} {x y : Operand} {kd : IntKind} {a b r : Int} (hr : kd.wrap ((BitVec.ofInt kd.bits a &&& BitVec.ofInt kd.bits b).toNat) = r) (h : Run P n Q g (.ops all rest :: k) (e.put dst (.int kd r)) D M) (hx : e.ev x = some (.int kd a) := by rfl) (hy : e.ev y = some (.int kd b) := by rfl) (hd : dstOk n dst = true := by rfl) :
    Run P n Q g (.ops all (⟨dst, .binOp .and t x y t', ty, pos, af, none⟩ :: rest) :: k) e D M := Run.band hx hy hr hd h
theorem R.or {t t' : TypeId} {x y : Operand} {kd : IntKind} {a b r : Int} (hr : kd.wrap ((BitVec.ofInt kd.bits a ||| BitVec.ofInt kd.bits b).toNat) = r) (h : Run P n Q g (.ops all rest :: k) (e.put dst (.int kd r)) D M) (hx : e.ev x = some (.int kd a) := by rfl) (hy : e.ev y = some (.int kd b) := by rfl) (hd : dstOk n dst = true := by rfl) :
    Run P n Q g (.ops all (⟨dst, .binOp .or t x y t', ty, pos, af, none⟩ :: rest) :: k) e D M := Run.bor hx hy hr hd h
theorem R.rm {t t' : TypeId} {x y : Operand} {kd : IntKind} {a b r : Int} (hr : a.tmod b = r) (h : Run P n Q g (.ops all rest :: k) (e.put dst (.int kd r)) D M) (hx : e.ev x = some (.int kd a) := by rfl) (hy : e.ev y = some (.int kd b) := by rfl) (h0 : b ≠ 0 := by first | omega | (dsimp only; omega)) (hd : dstOk n dst = true := by rfl) :
    Run P n Q g (.ops all (⟨dst, .binOp .rem t x y t', ty, pos, af, none⟩ :: rest) :: k) e D M := Run.rem hx hy h0 hr hd h
theorem R.cv {s t : TypeId} {x : Operand} {kd kd' : IntKind} {us : TypeDesc} {a r : Int} (hs : ∀ w, (underlying s).run P w = .ok us w) (ht : ∀ w, (underlying t).run P w = .ok (.int kd) w) (hr : kd.wrap a = r) (h : Run P n Q g (.ops all rest :: k) (e.put dst (.int kd r)) D M)
    (hx : e.ev x = some (.int kd' a) := by rfl) (hd : dstOk n dst = true := by rfl) : Run P n Q g (.ops all (⟨dst, .convert s t x, ty, pos, af, none⟩ :: rest) :: k) e D M := Run.convInt hs ht hx hr hd h
theorem R.alA {t : TypeId} {cs : List Value} (hz : ∀ w, (zeroValue t).run P w = .ok (.agg cs.toArray) w) (h : ∀ b, D b = none → Run P n Q g (.ops all rest :: k) (e.put dst (.pointer (some ⟨b, 0, none⟩))) D ((b, .cells cs.toArray t (0, 0)) :: M)) (hd : dstOk n dst = true := by rfl) :
    Run P n Q g (.ops all (⟨dst, .alloc t, ty, pos, af, none⟩ :: rest) :: k) e D M := Run.allocA hz hd h
theorem R.al1 {t : TypeId} {z : Value} (hz : ∀ w, (zeroValue t).run P w = .ok z w) (h : ∀ b, D b = none → Run P n Q g (.ops all rest :: k) (e.put dst (.pointer (some ⟨b, 0, none⟩))) D ((b, .cells [z].toArray t (0, 0)) :: M)) (h1 : z.cells = #[z] := by rfl) (hd : dstOk n dst = true := by rfl) :
    Run P n Q g (.ops all (⟨dst, .alloc t, ty, pos, af, none⟩ :: rest) :: k) e D M := Run.alloc1 hz h1 hd h
theorem R.bxA {t : TypeId} {x : Operand} {cs : List Value} (h : ∀ b, D b = none → Run P n Q g (.ops all rest :: k) (e.put dst (.pointer (some ⟨b, 0, none⟩))) D ((b, .cells cs.toArray t (0, 0)) :: M)) (hx : e.ev x = some (.agg cs.toArray) := by rfl) (hd : dstOk n dst = true := by rfl) :
    Run P n Q g (.ops all (⟨dst, .box t x, ty, pos, af, none⟩ :: rest) :: k) e D M := Run.boxA hx hd h
theorem R.bx1 {t : TypeId} {x : Operand} {v : Value} (h : ∀ b, D b = none → Run P n Q g (.ops all rest :: k) (e.put dst (.pointer (some ⟨b, 0, none⟩))) D ((b, .cells [v].toArray t (0, 0)) :: M)) (hx : e.ev x = some v := by rfl) (h1 : v.cells = #[v] := by rfl) (hd : dstOk n dst = true := by rfl) :
    Run P n Q g (.ops all (⟨dst, .box t x, ty, pos, af, none⟩ :: rest) :: k) e D M := Run.box1 hx h1 hd h
theorem R.mm {t : TypeId} (h : ∀ b, D b = none → Run P n Q g (.ops all rest :: k) (e.put dst (.map (some b))) D ((b, .map #[] 0) :: M)) (hd : dstOk n dst = true := by rfl) : Run P n Q g (.ops all (⟨dst, .makeMap t none, ty, pos, af, none⟩ :: rest) :: k) e D M := Run.makeMap hd h
theorem R.bd {t : TypeId} {ps : List (Nat × Operand)} {zs cs : List Value} {pl : List (Nat × Nat)} {l : List (Nat × List Value)} (hz : ∀ w, (zeroValue t).run P w = .ok (.agg zs.toArray) w) (hp : Places P t pl)
    (h : Run P n Q g (.ops all rest :: k) (e.put dst (.agg cs.toArray)) D M) (hl : partCells e ps = some l := by rfl) (hf : fillN pl zs l = some cs := by rfl) (hd : dstOk n dst = true := by rfl) : Run P n Q g (.ops all (⟨dst, .build t ps.toArray, ty, pos, af, none⟩ :: rest) :: k) e D M := Run.build hz hp hl hf hd h
theorem R.bs {t el : TypeId} {ps : List (Nat × Operand)} (zc : List Value) {cs : List Value} {len : Nat} {l : List (Nat × List Value)} (hu : ∀ w, (underlying t).run P w = .ok (.slice el) w) (hsz : ∀ w, (sizeOf el).run P w = .ok zc.length w)
    {z : Value} (hz : ∀ w, (zeroValue el).run P w = .ok z w) (h : ∀ b, D b = none → Run P n Q g (.ops all rest :: k) (e.put dst (.slice (some ⟨b, 0, none⟩) len len)) D ((b, .cells cs.toArray el (0, 0)) :: M))
    (hzs : z.cells = zc.toArray := by rfl) (h24 : len * zc.length ≤ 2 ^ 24 := by decide) (hne : len * zc.length ≠ 0 := by decide) (hl : partCells e ps = some l := by rfl) (hf : fillN ((List.range len).map fun i => (i * zc.length, zc.length)) (reps len zc) l = some cs := by rfl) (hd : dstOk n dst = true := by rfl) (hlt : l.all (fun p => Nat.blt p.1 len) = true := by rfl) :
    Run P n Q g (.ops all (⟨dst, .buildSlice t len ps.toArray, ty, pos, af, none⟩ :: rest) :: k) e D M :=
  Run.buildSlice hu hsz hz hzs h24 hne hl hf hd (fun p hp => by have := List.all_eq_true.1 hlt p hp; simpa [Nat.blt_eq] using this) h
theorem R.f1 {t ft : TypeId} {x : Operand} {i : Nat} {fs : Array Field} {f : Field} {cs : List Value} {v : Value} (hu : ∀ w, (underlying t).run P w = .ok (.struct fs) w) (hA : ∀ w, (isAgg ft).run P w = .ok false w) (h : Run P n Q g (.ops all rest :: k) (e.put dst v) D M)
    (hf : fs[i]? = some f := by rfl) (hft : f.type = ft := by rfl) (hx : e.ev x = some (.agg cs.toArray) := by rfl) (hc : cs[f.offset]? = some v := by rfl) (hd : dstOk n dst = true := by rfl) : Run P n Q g (.ops all (⟨dst, .field t x i, ty, pos, af, none⟩ :: rest) :: k) e D M := Run.field1 hu hf (hft ▸ hA) hx hc hd h
theorem R.fA {t ft : TypeId} {x : Operand} {i sz : Nat} {fs : Array Field} {f : Field} {cs vs : List Value} (hu : ∀ w, (underlying t).run P w = .ok (.struct fs) w) (hA : ∀ w, (isAgg ft).run P w = .ok true w) (hS : ∀ w, (sizeOf ft).run P w = .ok sz w) (h : Run P n Q g (.ops all rest :: k) (e.put dst (.agg vs.toArray)) D M)
    (hf : fs[i]? = some f := by rfl) (hft : f.type = ft := by rfl) (hx : e.ev x = some (.agg cs.toArray) := by rfl) (hc : takeN f.offset sz cs = some vs := by rfl) (hd : dstOk n dst = true := by rfl) : Run P n Q g (.ops all (⟨dst, .field t x i, ty, pos, af, none⟩ :: rest) :: k) e D M := Run.fieldA hu hf (hft ▸ hA) (hft ▸ hS) hx hc hd h
theorem R.fa {t ft : TypeId} {x : Operand} {i b off sz : Nat} {fs : Array Field} {f : Field} (hu : ∀ w, (underlying t).run P w = .ok (.struct fs) w) (hS : ∀ w, (sizeOf ft).run P w = .ok sz w) (h : Run P n Q g (.ops all rest :: k) (e.put dst (.pointer (some ⟨b, off + f.offset, none⟩))) D M)
    (hf : fs[i]? = some f := by rfl) (hft : f.type = ft := by rfl) (h0 : sz ≠ 0 := by decide) (hx : e.ev x = some (.pointer (some ⟨b, off, none⟩)) := by rfl) (hd : dstOk n dst = true := by rfl) : Run P n Q g (.ops all (⟨dst, .fieldAddr t x i, ty, pos, af, none⟩ :: rest) :: k) e D M := Run.fieldAddr hu hf (hft ▸ hS) h0 hx hd h
theorem R.ld {t : TypeId} {x : Operand} {b off : Nat} {v : Value} (hA : ∀ w, (isAgg t).run P w = .ok false w) (h : Run P n Q g (.ops all rest :: k) (e.put dst v) D M) (hx : e.ev x = some (.pointer (some ⟨b, off, none⟩)) := by rfl)
    (hc : Cs D M b off [v] := by first | exact Cs.mkM (n := 1) (.head _) rfl | exact Cs.mkM (n := 1) (.tail _ (.head _)) rfl | exact Cs.mkM (n := 1) (.tail _ (.tail _ (.head _))) rfl | exact Cs.mkM (n := 1) (.tail _ (.tail _ (.tail _ (.head _)))) rfl | exact Cs.mkM (n := 1) (.tail _ (.tail _ (.tail _ (.tail _ (.head _))))) rfl | exact Cs.mkM (n := 1) (.tail _ (.tail _ (.tail _ (.tail _ (.tail _ (.head _)))))) rfl | (apply Cs.mkM (n := 1); (first | exact List.Mem.head _ | (apply List.Mem.tail; repeat (first | exact List.Mem.head _ | apply List.Mem.tail))); rfl))
    (hd : dstOk n dst = true := by rfl) : Run P n Q g (.ops all (⟨dst, .load t x, ty, pos, af, none⟩ :: rest) :: k) e D M := Run.load1 hA hx hc hd h
structure CsN (D : Dict) (M : MList) (b off sz : Nat) (vs : List Value) : Prop where
  cs : Cs D M b off vs
  len : vs.length = sz
theorem CsN.mkM {b off sz : Nat} {vs l : List Value} {T : TypeId} {fr : Nat × Nat} (h : (b, Obj.cells l.toArray T fr) ∈ M) (ht : takeN off sz l = some vs) : CsN D M b off sz vs := ⟨Cs.mkM h ht, (takeN_spec ht).1⟩
theorem R.lA {t : TypeId} {x : Operand} {b off : Nat} {vs : List Value} (sz : Nat) (hA : ∀ w, (isAgg t).run P w = .ok true w) (hS : ∀ w, (sizeOf t).run P w = .ok sz w) (h : Run P n Q g (.ops all rest :: k) (e.put dst (.agg vs.toArray)) D M) (hx : e.ev x = some (.pointer (some ⟨b, off, none⟩)) := by rfl)
    (hc : CsN D M b off sz vs := by first | exact CsN.mkM (.head _) rfl | exact CsN.mkM (.tail _ (.head _)) rfl | exact CsN.mkM (.tail _ (.tail _ (.head _))) rfl | exact CsN.mkM (.tail _ (.tail _ (.tail _ (.head _)))) rfl | exact CsN.mkM (.tail _ (.tail _ (.tail _ (.tail _ (.head _))))) rfl | (apply CsN.mkM; (first | exact List.Mem.head _ | (apply List.Mem.tail; repeat (first | exact List.Mem.head _ | apply List.Mem.tail))); rfl))
    (hd : dstOk n dst = true := by rfl) : Run P n Q g (.ops all (⟨dst, .load t x, ty, pos, af, none⟩ :: rest) :: k) e D M := Run.loadA hA (hc.len ▸ hS) hx hc.cs hd h
theorem R.st {t : TypeId} {x y : Operand} {b off sz : Nat} {v : Value} {l l' : List Value} {T : TypeId} {M' : MList} (hS : ∀ w, (sizeOf t).run P w = .ok sz w) (h : Run P n Q g (.ops all rest :: k) (e.put dst undef) D M') (hx : e.ev x = some (.pointer (some ⟨b, off, none⟩)) := by rfl) (hy : e.ev y = some v := by rfl) (hsz : v.cells.size = sz := by rfl)
    (hm : MSet M b (.cells l.toArray T (0, 0)) (.cells l'.toArray T (0, 0)) M' := by first | exact .here .. | exact .there _ (.here ..) | exact .there _ (.there _ (.here ..)) | exact .there _ (.there _ (.there _ (.here ..))) | exact .there _ (.there _ (.there _ (.there _ (.here ..)))) | exact .there _ (.there _ (.there _ (.there _ (.there _ (.here ..))))) | (repeat (first | exact MSet.here .. | apply MSet.there)))
    (hl : layN off l v.cells.toList = some l' := by rfl) (h1 : v.cells.toList.all (·.oneCell') = true := by rfl) (hd : dstOk n dst = true := by rfl) : Run P n Q g (.ops all (⟨dst, .store t x y, ty, pos, af, none⟩ :: rest) :: k) e D M :=
  Run.storeL (hsz ▸ hS) hx hy (fun u hu => List.all_eq_true.1 h1 u hu) hl hm hd h
theorem R.ia {t el : TypeId} {x i : Operand} {b off l c sz : Nat} {kd : IntKind} {j : Int} (hu : ∀ w, (underlying t).run P w = .ok (.slice el) w) (hS : ∀ w, (sizeOf el).run P w = .ok sz w) (h : Run P n Q g (.ops all rest :: k) (e.put dst (.pointer (some ⟨b, off + j.toNat * sz, none⟩))) D M)
    (hx : e.ev x = some (.slice (some ⟨b, off, none⟩) l c) := by rfl) (hi : e.ev i = some (.int kd j) := by rfl) (h0 : 0 ≤ j ∧ j < l := by first | omega | (dsimp only; omega)) (hd : dstOk n dst = true := by rfl) : Run P n Q g (.ops all (⟨dst, .indexAddr t x i, ty, pos, af, none⟩ :: rest) :: k) e D M := Run.indexAddr hu hS hx hi h0.1 h0.2 hd h
theorem R.ln {t : TypeId} {x : Operand} {A : Option Addr} {l c : Nat} {el : TypeId} (hu : ∀ w, (underlying t).run P w = .ok (.slice el) w) (h : Run P n Q g (.ops all rest :: k) (e.put dst (.int .i64 l)) D M) (hx : e.ev x = some (.slice A l c) := by rfl) (hd : dstOk n dst = true := by rfl) :
    Run P n Q g (.ops all (⟨dst, .call { callee := .builtin .len, args := #[x], argTypes := #[t] }, ty, pos, af, none⟩ :: rest) :: k) e D M := Run.len hu hx hd h
theorem R.ep {t t' el : TypeId} {x y : Operand} {a : Option Addr} (hu : ∀ w, (underlying t).run P w = .ok (.pointer el) w) (h : Run P n Q g (.ops all rest :: k) (e.put dst (.bool a.isNone)) D M) (hx : e.ev x = some (.pointer a) := by rfl) (hy : e.ev y = some (.pointer none) := by rfl) (hd : dstOk n dst = true := by rfl) :
    Run P n Q g (.ops all (⟨dst, .binOp .eql t x y t', ty, pos, af, none⟩ :: rest) :: k) e D M := Run.eqPtrNil hu hx hy hd h
theorem R.np {t t' el : TypeId} {x y : Operand} {a : Option Addr} (hu : ∀ w, (underlying t).run P w = .ok (.pointer el) w) (h : Run P n Q g (.ops all rest :: k) (e.put dst (.bool (!a.isNone))) D M) (hx : e.ev x = some (.pointer a) := by rfl) (hy : e.ev y = some (.pointer none) := by rfl) (hd : dstOk n dst = true := by rfl) :
    Run P n Q g (.ops all (⟨dst, .binOp .neq t x y t', ty, pos, af, none⟩ :: rest) :: k) e D M := Run.nePtrNil hu hx hy hd h
theorem R.es {t t' el : TypeId} {x y : Operand} {a : Option Addr} {l c : Nat} (hu : ∀ w, (underlying t).run P w = .ok (.slice el) w) (h : Run P n Q g (.ops all rest :: k) (e.put dst (.bool a.isNone)) D M) (hx : e.ev x = some (.slice a l c) := by rfl) (hy : e.ev y = some (.slice none 0 0) := by rfl) (hd : dstOk n dst = true := by rfl) :
    Run P n Q g (.ops all (⟨dst, .binOp .eql t x y t', ty, pos, af, none⟩ :: rest) :: k) e D M := Run.eqSlNil hu hx hy hd h
theorem R.eb {t t' : TypeId} {x y : Operand} {a b : Bool} (hu : ∀ w, (underlying t).run P w = .ok .bool w) (h : Run P n Q g (.ops all rest :: k) (e.put dst (.bool (a == b))) D M) (hx : e.ev x = some (.bool a) := by rfl) (hy : e.ev y = some (.bool b) := by rfl) (hd : dstOk n dst = true := by rfl) :
    Run P n Q g (.ops all (⟨dst, .binOp .eql t x y t', ty, pos, af, none⟩ :: rest) :: k) e D M := Run.eqBool hu hx hy hd h
theorem R.nb {t t' : TypeId} {x y : Operand} {a b : Bool} (hu : ∀ w, (underlying t).run P w = .ok .bool w) (h : Run P n Q g (.ops all rest :: k) (e.put dst (.bool (!(a == b)))) D M) (hx : e.ev x = some (.bool a) := by rfl) (hy : e.ev y = some (.bool b) := by rfl) (hd : dstOk n dst = true := by rfl) :
    Run P n Q g (.ops all (⟨dst, .binOp .neq t x y t', ty, pos, af, none⟩ :: rest) :: k) e D M := Run.neBool hu hx hy hd h
theorem R.ea {t t' : TypeId} {x y : Operand} {xs ys : List Value} {r : Bool} (hg : P.eqGuardType P.depth t = false) (hr : EqAt P t xs ys r) (h : Run P n Q g (.ops all rest :: k) (e.put dst (.bool r)) D M) (hx : e.ev x = some (.agg xs.toArray) := by rfl) (hy : e.ev y = some (.agg ys.toArray) := by rfl) (hd : dstOk n dst = true := by rfl) :
    Run P n Q g (.ops all (⟨dst, .binOp .eql t x y t', ty, pos, af, none⟩ :: rest) :: k) e D M := Run.eqAgg hg hx hy hr hd h
theorem R.na {t t' : TypeId} {x y : Operand} {xs ys : List Value} {r : Bool} (hg : P.eqGuardType P.depth t = false) (hr : EqAt P t xs ys r) (h : Run P n Q g (.ops all rest :: k) (e.put dst (.bool !r)) D M) (hx : e.ev x = some (.agg xs.toArray) := by rfl) (hy : e.ev y = some (.agg ys.toArray) := by rfl) (hd : dstOk n dst = true := by rfl) :
    Run P n Q g (.ops all (⟨dst, .binOp .neq t x y t', ty, pos, af, none⟩ :: rest) :: k) e D M := Run.neAgg hg hx hy hr hd h
theorem R.gd {op : Op} {j d : Nat} {want b : Bool} (hy : b = want → Run P n Q g (.ops all (⟨dst, op, ty, pos, af, none⟩ :: rest) :: k) e D M) (hn : b = !want → Run P n Q g (.ops all rest :: k) (e.put dst undef) D M)
    (hj : gdst all j = some d := by rfl) (hb : e.get d = some (.bool b) := by rfl) (hd : dstOk n dst = true := by rfl) : Run P n Q g (.ops all (⟨dst, op, ty, pos, af, some (j, want)⟩ :: rest) :: k) e D M := Run.guard hj hb hd hy hn
theorem R.gY {op : Op} {j d : Nat} {want b : Bool} (hbw : b = want) (h : Run P n Q g (.ops all (⟨dst, op, ty, pos, af, none⟩ :: rest) :: k) e D M) (hj : gdst all j = some d := by rfl) (hb : e.get d = some (.bool b) := by rfl) :
    Run P n Q g (.ops all (⟨dst, op, ty, pos, af, some (j, want)⟩ :: rest) :: k) e D M := Run.guardY hj hb hbw h
theorem R.gF {op : Op} {j d : Nat} {want b : Bool} (hbw : b = !want) (h : Run P n Q g (.ops all rest :: k) (e.put dst undef) D M) (hj : gdst all j = some d := by rfl) (hb : e.get d = some (.bool b) := by rfl) (hd : dstOk n dst = true := by rfl) :
    Run P n Q g (.ops all (⟨dst, op, ty, pos, af, some (j, want)⟩ :: rest) :: k) e D M := Run.guardF hj hb hbw hd h
theorem R.gU {op : Op} {j d : Nat} {want : Bool} (h : Run P n Q g (.ops all rest :: k) (e.put dst undef) D M) (hj : gdst all j = some d := by rfl) (hb : e.get d = some undef := by rfl) (hd : dstOk n dst = true := by rfl) :
    Run P n Q g (.ops all (⟨dst, op, ty, pos, af, some (j, want)⟩ :: rest) :: k) e D M := Run.guardN hj hb (by intro hq; cases hq) hd h
theorem R.cd {c : Operand} {x y : Code} {b : Bool} (ht : b = true → Run P n Q g (.code x :: k) e D M) (hf : b = false → Run P n Q g (.code y :: k) e D M) (hc : e.ev c = some (.bool b) := by rfl) : Run P n Q g (.code (.cond c x y) :: k) e D M := Run.cond hc ht hf
theorem R.cT {c : Operand} {x y : Code} {b : Bool} (hb : b = true) (ht : Run P n Q g (.code x :: k) e D M) (hc : e.ev c = some (.bool b) := by rfl) : Run P n Q g (.code (.cond c x y) :: k) e D M := Run.cond hc (fun _ => ht) (fun h => by rw [hb] at h; cases h)
theorem R.cF {c : Operand} {x y : Code} {b : Bool} (hb : b = false) (hf : Run P n Q g (.code y :: k) e D M) (hc : e.ev c = some (.bool b) := by rfl) : Run P n Q g (.code (.cond c x y) :: k) e D M := Run.cond hc (fun h => by rw [hb] at h; cases h) (fun _ => hf)
theorem R.sp (t : Nat) {b : Bool} (ht : b = true → Run P n Q g k e D M) (hf : b = false → Run P n Q g k e D M) (hb : e.get t = some (.bool b) := by rfl) : Run P n Q g k e D M := by
  cases b
  · exact hf rfl
  · exact ht rfl
theorem R.ca {args : List Operand} {tys : Array TypeId} {f : FuncId} {vs : List Value} {K : Value → Dict → MList → Prop} (hf : ∀ args w, (callFunc f args).run P w = .ok (.enter f args) w) (hc : Spec P g f vs D M K) (h : ∀ v D' M', K v D' M' → Run P n Q g (.ops all rest :: k) (e.put dst v) D' M')
    (ha : e.evs args = some vs := by rfl) (hd : dstOk n dst = true := by rfl) : Run P n Q g (.ops all (⟨dst, .call { callee := .value (.func f), args := args.toArray, argTypes := tys }, ty, pos, af, none⟩ :: rest) :: k) e D M := Run.call hf ha hd hc h
/-- a call that tells a value, the world kept -/
def Gives (P : Program) (g : Gl) (f : FuncId) (vs : List Value) (D : Dict) (M : MList) (v : Value) : Prop := Spec P g f vs D M (fun v' D' M' => v' = v ∧ D' = D ∧ M' = M)
theorem R.cg {args : List Operand} {tys : Array TypeId} {f : FuncId} {vs : List Value} {v : Value} (hf : ∀ args w, (callFunc f args).run P w = .ok (.enter f args) w) (hc : Gives P g f vs D M v) (h : Run P n Q g (.ops all rest :: k) (e.put dst v) D M)
    (ha : e.evs args = some vs := by rfl) (hd : dstOk n dst = true := by rfl) : Run P n Q g (.ops all (⟨dst, .call { callee := .value (.func f), args := args.toArray, argTypes := tys }, ty, pos, af, none⟩ :: rest) :: k) e D M :=
  Run.call hf ha hd hc (fun _ _ _ ⟨h1, h2, h3⟩ => by subst h1; subst h2; subst h3; exact h)
theorem Gives.enter {f : FuncId} {fn : Func} {c : Code} {vs : List Value} {v : Value} (hf : P.funcs[f]? = some fn) (hb : fn.body = some c) (hn : fn.ntmps = n)
    (h : Run P n (bodyPost P fn (fun ex w' => ∃ v' D' M', ex = .returned v' ∧ St g w' D' M' ∧ (v' = v ∧ D' = D ∧ M' = M))) g [.code c] (argEnv 0 vs) D M) (hl : Nat.ble vs.length n = true := by rfl) : Gives P g f vs D M v := Spec.enter hf hb hn hl h
/-- what a function hands back: each result out of its slot or its variable -/
inductive RVs (P : Program) (e : Env) (D : Dict) (M : MList) : List ResultVar → List Value → Prop
  | nil : RVs P e D M [] []
  | tmp {t : Nat} {v : Value} {r : List ResultVar} {vs : List Value} (h : e.get t = some v) (hr : RVs P e D M r vs) : RVs P e D M (.tmp t :: r) (v :: vs)
  | agg {t T b off sz : Nat} {us : List Value} {r : List ResultVar} {vs : List Value} (hA : ∀ w, (isAgg T).run P w = .ok true w) (hS : ∀ w, (sizeOf T).run P w = .ok sz w) (h : e.get t = some (.pointer (some ⟨b, off, none⟩))) (hc : CsN D M b off sz us) (hr : RVs P e D M r vs) : RVs P e D M (.cell t T :: r) (.agg us.toArray :: vs)
  | var {t T b off : Nat} {v : Value} {r : List ResultVar} {vs : List Value} (hA : ∀ w, (isAgg T).run P w = .ok false w) (h : e.get t = some (.pointer (some ⟨b, off, none⟩))) (hc : Cs D M b off [v]) (hr : RVs P e D M r vs) : RVs P e D M (.cell t T :: r) (v :: vs)
theorem RV.t {t : Nat} {v : Value} {r : List ResultVar} {vs : List Value} (hr : RVs P e D M r vs) (h : e.get t = some v := by rfl) : RVs P e D M (.tmp t :: r) (v :: vs) := .tmp h hr
theorem RV.a {t T b off sz : Nat} {us : List Value} {r : List ResultVar} {vs : List Value} (hA : ∀ w, (isAgg T).run P w = .ok true w) (hS : ∀ w, (sizeOf T).run P w = .ok sz w) (hr : RVs P e D M r vs) (h : e.get t = some (.pointer (some ⟨b, off, none⟩)) := by rfl)
    (hc : CsN D M b off sz us := by first | exact CsN.mkM (.head _) rfl | exact CsN.mkM (.tail _ (.head _)) rfl | exact CsN.mkM (.tail _ (.tail _ (.head _))) rfl | exact CsN.mkM (.tail _ (.tail _ (.tail _ (.head _)))) rfl | exact CsN.mkM (.tail _ (.tail _ (.tail _ (.tail _ (.head _))))) rfl | (apply CsN.mkM; (first | exact List.Mem.head _ | (apply List.Mem.tail; repeat (first | exact List.Mem.head _ | apply List.Mem.tail))); rfl)) : RVs P e D M (.cell t T :: r) (.agg us.toArray :: vs) := .agg hA hS h hc hr
theorem RV.v {t T b off : Nat} {v : Value} {r : List ResultVar} {vs : List Value} (hA : ∀ w, (isAgg T).run P w = .ok false w) (hr : RVs P e D M r vs) (h : e.get t = some (.pointer (some ⟨b, off, none⟩)) := by rfl)
    (hc : Cs D M b off [v] := by first | exact Cs.mkM (n := 1) (.head _) rfl | exact Cs.mkM (n := 1) (.tail _ (.head _)) rfl | exact Cs.mkM (n := 1) (.tail _ (.tail _ (.head _))) rfl | exact Cs.mkM (n := 1) (.tail _ (.tail _ (.tail _ (.head _)))) rfl | (apply Cs.mkM (n := 1); (first | exact List.Mem.head _ | (apply List.Mem.tail; repeat (first | exact List.Mem.head _ | apply List.Mem.tail))); rfl)) : RVs P e D M (.cell t T :: r) (v :: vs) := .var hA h hc hr
def oneV : List Value → Value
  | [v] => v
  | vs => .tuple vs.toArray
def oneO : List Value → Option Value
  | [v] => some v
  | vs => some (.tuple vs.toArray)
theorem oneO_eq {vs : List Value} {u : Value} (h : oneO vs = some u) : oneV vs = u := by
  match vs, h with
  | [], h => exact Option.some.inj h
  | [v], h => exact Option.some.inj h
  | _ :: _ :: _, h => exact Option.some.inj h
theorem RVs.run {fn : Func} {vs : List Value} (h : RVs P e D M fn.results.toList vs) {a : Act} {w : World} (he : EnvOk n e a) (hs : St g w D M) : (results fn a.tmps).run P w = .ok (oneV vs) w := by
  have key : ∀ {rs : List ResultVar} {vs : List Value}, RVs P e D M rs vs → (rs.mapM fun
      | ResultVar.tmp t => pure (a.tmps.getD t undef)
      | ResultVar.cell c t => do loadVar t (← asAddr (a.tmps.getD c undef))).run P w = .ok vs w := by
    intro rs vs h
    induction h with
    | nil => rfl
    | tmp h _ ih => simp only [List.mapM_cons, Sem.run_bind, Sem.run_pure, Result.andThen_ok, ih, get_tmps he h]
    | @agg t T b off sz us r vs hA hS h hc _ ih =>
      have h0 := run_loadCells_list (P := P) w _ _ (hc.cs.cell hs)
      rw [hc.len] at h0
      have e1 : Sem.run P (asAddr (Value.pointer (some ⟨b, off, none⟩))) w = .ok ⟨b, off, none⟩ w := rfl
      have e2 : Sem.run P (loadVar T ⟨b, off, none⟩) w = .ok (.agg us.toArray) w := by simp only [loadVar, Sem.run_bind, hA, Result.andThen_ok, if_true, hS, h0, Sem.run_pure]
      simp only [List.mapM_cons, Sem.run_bind, Sem.run_pure, Result.andThen_ok, ih, get_tmps he h, e1, e2]
    | @var t T b off v r vs hA h hc _ ih =>
      have h0 := hc.cell hs 0 _ rfl
      rw [add_plain, Nat.add_zero] at h0
      have e1 : Sem.run P (asAddr (Value.pointer (some ⟨b, off, none⟩))) w = .ok ⟨b, off, none⟩ w := rfl
      have e2 : Sem.run P (loadVar T ⟨b, off, none⟩) w = .ok v w := by
        simp only [loadVar, Sem.run_bind, hA, Result.andThen_ok, Bool.false_eq_true, if_false, load, Sem.run, h0]
      simp only [List.mapM_cons, Sem.run_bind, Sem.run_pure, Result.andThen_ok, ih, get_tmps he h, e1, e2]
  have h2 := key h
  unfold results
  rw [Array.mapM_eq_mapM_toList]
  simp only [map_eq_pure_bind, Sem.run_bind, Sem.run_pure]
  refine (congrArg (fun q : Result (List Value) => (q.andThen fun a w' => Result.ok a.toArray w').andThen fun (a : Array Value) w' => Result.ok (if h : a.size = 1 then a[0] else Value.tuple a) w') h2).trans ?_
  match vs with
  | [] => rfl
  | [v] => rfl
  | _ :: _ :: _ => rfl
/-- the end of a function that tells a value; j locals are left behind -/
theorem R.rt {fn : Func} {v u : Value} {vs : List Value} {M0 : MList} (hr : RVs P e D M fn.results.toList vs) (j : Nat) (hv : u = v) (hu : oneO vs = some u := by rfl) (hM : M.drop j = M0 := by rfl) :
    Run P n (bodyPost P fn (fun ex w' => ∃ v' D' M', ex = .returned v' ∧ St g w' D' M' ∧ (v' = v ∧ D' = D ∧ M' = M0))) g (.code .ret :: k) e D M :=
  fun a w he hd hs => wp_ret (itp_ret (k := k) (Q := bodyPost P fn _) ⟨hd, _, hr.run he hs, ⟨_, D, M0, rfl, hM ▸ hs.drop j, (oneO_eq hu).trans hv, rfl, rfl⟩⟩)
/-- the same where more is told -/
theorem R.rk {fn : Func} {K : Value → Dict → MList → Prop} {vs : List Value} {u : Value} (hr : RVs P e D M fn.results.toList vs) (j : Nat) (hK : K u D (M.drop j)) (hu : oneO vs = some u := by rfl) :
    Run P n (bodyPost P fn (fun ex w' => ∃ v' D' M', ex = .returned v' ∧ St g w' D' M' ∧ K v' D' M')) g (.code .ret :: k) e D M :=
  fun a w he hd hs => wp_ret (itp_ret (k := k) (Q := bodyPost P fn _) ⟨hd, _, hr.run he hs, ⟨_, D, _, rfl, hs.drop j, (oneO_eq hu).symm ▸ hK⟩⟩)
/-- no result, no return: the end of the text -/
theorem R.fn {fn : Func} {K : Value → Dict → MList → Prop} {vs : List Value} {u : Value} (hr : RVs P e D M fn.results.toList vs) (j : Nat) (hK : K u D (M.drop j)) (hu : oneO vs = some u := by rfl) :
    Run P n (bodyPost P fn (fun ex w' => ∃ v' D' M', ex = .returned v' ∧ St g w' D' M' ∧ K v' D' M')) g [] e D M :=
  fun a w he hd hs => ⟨hd, _, hr.run he hs, ⟨_, D, _, rfl, hs.drop j, (oneO_eq hu).symm ▸ hK⟩⟩
end
end Go.Proofs.Ytgdpjpmjcpieiaa
