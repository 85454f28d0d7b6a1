/- The levels that are told: the program's answer. No condition. -/
import Derived.Test.YtgdpjpmjcpieiaaL4
import Derived.Test.YtgdpjpmjcpieiaaSf
namespace Go.Proofs.Ytgdpjpmjcpieiaa
open Go
set_option linter.unusedVariables false
set_option linter.unusedSimpArgs false
set_option maxRecDepth 100000
set_option maxHeartbeats 0
def sortLv_ren : Go.Shelf.Ren := ⟨fun | 6 => 58 | 15 => 69 | 14 => 68 | 28 => 82 | 29 => 83 | 20 => 74 | 21 => 75 | 22 => 76 | 23 => 77 | 24 => 78 | 25 => 79 | 26 => 80 | 27 => 81 | 46 => 86 | 47 => 87 | 48 => 88 | 49 => 89 | 50 => 90 | 57 => 92 | n => n, fun | 22 => 47 | 24 => 42 | 25 => 65 | 3 => 3 | 39 => 71 | 0 => 0 | 53 => 93 | 55 => 95 | 4 => 4 | 46 => 86 | 45 => 85 | 50 => 90 | 5 => 5 | 9 => 9 | 66 => 98 | 70 => 102 | 76 => 104 | 77 => 105 | n => n, fun | n => n⟩
theorem sortLv : Go.Proofs.SlLaysF0.n6 Try.prog sortLv_ren := {
  mixed := by kernel_rfl
  f6 := ⟨Try.f58.name, by decide, Try.func58.trans (congrArg some (by kernel_rfl))⟩
  f14 := ⟨Try.f68.name, by decide, Try.func68.trans (congrArg some (by kernel_rfl))⟩
  f15 := Try.func69.trans (congrArg some (by kernel_rfl))
  f20 := ⟨Try.f74.name, by decide, Try.func74.trans (congrArg some (by kernel_rfl))⟩
  f21 := ⟨Try.f75.name, by decide, Try.func75.trans (congrArg some (by kernel_rfl))⟩
  f22 := ⟨Try.f76.name, by decide, Try.func76.trans (congrArg some (by kernel_rfl))⟩
  f23 := ⟨Try.f77.name, by decide, Try.func77.trans (congrArg some (by kernel_rfl))⟩
  f24 := ⟨Try.f78.name, by decide, Try.func78.trans (congrArg some (by kernel_rfl))⟩
  f25 := ⟨Try.f79.name, by decide, Try.func79.trans (congrArg some (by kernel_rfl))⟩
  f26 := ⟨Try.f80.name, by decide, Try.func80.trans (congrArg some (by kernel_rfl))⟩
  f27 := ⟨Try.f81.name, by decide, Try.func81.trans (congrArg some (by kernel_rfl))⟩
  f28 := Try.func82.trans (congrArg some (by kernel_rfl))
  f29 := Try.func83.trans (congrArg some (by kernel_rfl))
  f46 := ⟨Try.f86.name, by decide, Try.func86.trans (congrArg some (by kernel_rfl))⟩
  f47 := Try.func87.trans (congrArg some (by kernel_rfl))
  f48 := Try.func88.trans (congrArg some (by kernel_rfl))
  f49 := ⟨Try.f89.name, by decide, Try.func89.trans (congrArg some (by kernel_rfl))⟩
  f50 := ⟨Try.f90.name, by decide, Try.func90.trans (congrArg some (by kernel_rfl))⟩
  f57 := ⟨Try.f92.name, by decide, Try.func92.trans (congrArg some (by kernel_rfl))⟩
  t0 := Try.underlying0
  a0 := Try.isAgg0
  z0 := Try.sizeOf0
  v0 := Try.zeroValue0
  t3 := Try.underlying3
  a3 := Try.isAgg3
  z3 := Try.sizeOf3
  v3 := Try.zeroValue3
  t4 := Try.underlying4
  a4 := Try.isAgg4
  z4 := Try.sizeOf4
  v4 := Try.zeroValue4
  t5 := Try.underlying5
  a5 := Try.isAgg5
  z5 := Try.sizeOf5
  v5 := Try.zeroValue5
  t9 := Try.underlying9
  a9 := Try.isAgg9
  z9 := Try.sizeOf9
  v9 := Try.zeroValue9
  t22 := Try.underlying47
  a22 := Try.isAgg47
  z22 := Try.sizeOf47
  v22 := Try.zeroValue47
  t25 := Try.underlying65
  a25 := Try.isAgg65
  z25 := Try.sizeOf65
  v25 := Try.zeroValue65
  t39 := Try.underlying71
  a39 := Try.isAgg71
  z39 := Try.sizeOf71
  v39 := Try.zeroValue71
  t45 := Try.underlying85
  a45 := Try.isAgg85
  z45 := Try.sizeOf85
  v45 := Try.zeroValue85
  t46 := Try.underlying86
  a46 := Try.isAgg86
  z46 := Try.sizeOf86
  v46 := Try.zeroValue86
  t50 := Try.underlying90
  a50 := Try.isAgg90
  z50 := Try.sizeOf90
  v50 := Try.zeroValue90
  t53 := Try.underlying93
  a53 := Try.isAgg93
  z53 := Try.sizeOf93
  v53 := Try.zeroValue93
  t55 := Try.underlying95
  a55 := Try.isAgg95
  z55 := Try.sizeOf95
  v55 := Try.zeroValue95
  t66 := Try.underlying98
  a66 := Try.isAgg98
  z66 := Try.sizeOf98
  v66 := Try.zeroValue98
  t70 := Try.underlying102
  a70 := Try.isAgg102
  z70 := Try.sizeOf102
  v70 := Try.zeroValue102
  t76 := Try.underlying104
  a76 := Try.isAgg104
  z76 := Try.sizeOf104
  v76 := Try.zeroValue104
  t77 := Try.underlying105
  a77 := Try.isAgg105
  z77 := Try.sizeOf105
  v77 := Try.zeroValue105 }
instance : Inhabited Lv := ⟨⟨0, 0, 0⟩⟩
theorem sortLv_spec {g : Gl} {D : Dict} {q Z : MList} {v : Value} {xs : List Lv} (ho : LR v xs q) (hsz : xs.length ≤ 1000000) :
    Spec Try.prog g 58 [v, .func (.func 53) #[] #[]] D (q ++ Z) (fun u D' M' => u = .tuple #[] ∧ D' = D ∧ ∃ ys q', LR v ys q' ∧ ys.Perm xs ∧ ys.Pairwise (fun a b => ¬ ltL b a) ∧ M' = q' ++ Z) := by
  refine Spec.mono (sortF_spec sortLv Try.isAgg42 Try.sizeOf42 Lv.len (fun x => Lv.ones x) ordL swoL 53 [] Try.call53 ho (fun g' D' x y _ => ord_spec x y) hsz) ?_
  rintro u D' M' ⟨h1, h2, ys, q', h3, h4, h5, h6⟩
  exact ⟨h1, h2, ys, q', h3, h4, h5.imp (fun {a b} h => by simp only [ltOf, decide_eq_false_iff_not, ordL_lt] at h; exact h), h6⟩
theorem lvlsV_succ {xs : List Vw} {i : Nat} {x : Vw} (h : xs[i]? = some x) : lvlsV (xs.take (i + 1)) = lvlsV (xs.take i) ++ (if toldH x.h then [lvlH x.h] else []) := by
  rw [take_succ' h]
  by_cases ht : toldH x.h = true <;> simp [lvlsV, List.filter_append, ht]
theorem lvlsV_len (xs : List Vw) : (lvlsV xs).length ≤ xs.length := by simp only [lvlsV, List.length_map]; exact List.length_filter_le _ _
theorem levels_spec {g : Gl} {D : Dict} {M : MList} {a : Value} {xs : List Vw} (hn : xs.length ≤ 1000) (ha : Vws D a xs) :
    Gets Try.prog g 21 [a] D M (fun v D => Lvs D v (levelsV xs)) := by
  have hla := ha.form.choose_spec.choose_spec.2.2
  refine Gets.enter Try.func21 rfl Try.ntmps21 ?_
  refine R.sq ?_
  refine R.rg ?_
  refine R.as ?_
  refine R.nl ?_
  refine R.hs (e' := [(0, _)]) ?_
  refine R.sq ?_
  refine R.rg ?_
  refine R.as ?_
  refine R.nl ?_
  refine R.hs (e' := [(0, _), (3, _)]) ?_
  refine R.sq ?_
  refine R.sq ?_
  refine R.rg ?_
  refine R.mv ?_
  refine R.ll (ha) Try.runUnderlying24 ?_
  refine R.mv ?_
  refine R.nl ?_
  refine R.hs (e' := [(3, _), (6, _), (7, _), (8, _)]) ?_
  refine Run.block ?_
  refine Run.loop (ι := Nat × Value × MList) [(6, _), (7, _)] (fun p => [(8, .int .i64 (p.1 : Int)), (3, p.2.1)]) (fun _ => D) (fun p => p.2.2 ++ M) (fun p => p.1 ≤ xs.length ∧ LR p.2.1 (lvlsV (xs.take p.1)) p.2.2) (fun p => xs.length - p.1) ((0, .slice none 0 0, [])) (by repeat (first | exact trivial | refine ⟨rfl, ?_⟩)) ?h0 (by repeat (first | exact trivial | refine ⟨rfl, ?_⟩)) (fun w hs => hs) ?_
  case h0 => exact ⟨Nat.zero_le _, OL.nil⟩
  rintro ⟨i, v, q0⟩ ⟨hi, hO⟩
  simp only at hi hO
  refine R.sq ?_
  refine R.rg ?_
  refine R.cm ?_
  refine R.nl ?_
  refine R.hs (e' := [(3, _), (6, _), (7, _), (8, _), (9, _)]) ?_
  refine R.sq ?_
  refine R.cd (fun zc1 => ?_) (fun zc1 => ?_)
  ·
    have hlt : i < xs.length := by simp at zc1; omega
    obtain ⟨x, hgx⟩ := get_of_lt hlt
    obtain ⟨b1, o1, hI1, hc1⟩ := ha.at Vw.len hgx
    have hlen := lvlsV_len (xs.take i)
    rw [List.length_take] at hlen
    refine Run.skip ?_
    refine R.sq ?_
    refine Run.block ?_
    refine R.sq ?_
    refine R.rg ?_
    refine R.ix (hI1) Try.runUnderlying24 Try.sizeOf36 ?_
    refine R.lAD 7 Try.isAgg36 Try.sizeOf36 ?_
    refine R.alA Try.zeroValue36 (fun b5 hb5 => ?_)
    refine R.st Try.sizeOf36 ?_
    refine R.nl ?_
    refine R.hs (e' := [(3, _), (5, _), (6, _), (7, _), (8, _)]) ?_
    refine R.sq ?_
    refine R.rg ?_
    refine R.fa Try.runUnderlying36 Try.sizeOf23 ?_
    refine R.lA 6 Try.isAgg23 Try.sizeOf23 ?_
    refine R.cg Try.call57 (lTold_spec x.h) ?_
    refine R.nl ?_
    refine R.hs (e' := [(3, _), (5, _), (6, _), (7, _), (8, _), (14, _)]) ?_
    refine R.cd (fun zc3 => ?_) (fun zc3 => ?_)
    ·
      have hs1 : lvlsV (xs.take (i + 1)) = lvlsV (xs.take i) ++ [lvlH x.h] := by rw [lvlsV_succ hgx, if_pos zc3]
      refine R.rg ?_
      refine R.mv ?_
      refine R.fa Try.runUnderlying36 Try.sizeOf23 ?_
      refine R.lA 6 Try.isAgg23 Try.sizeOf23 ?_
      refine R.cg Try.call18 (lvl_spec x.h) ?_
      refine R.bs zc42 Try.runUnderlying47 Try.sizeOf42 Try.zeroValue42 (fun zb4 hzb4 => ?_)
      refine R.ap Try.underlying47 info42 (hO) (permQ (a := [_, _])) (Src.lit (List.mem_append_right _ (.head _)) rfl) (by omega) (Lv.ones _) ?_
      intro v' q' hO'
      have hO2 : LR v' (lvlsV (xs.take i) ++ [lvlH x.h]) q' := OL.snoc hO' rfl
      refine R.as ?_
      refine R.nl ?_
      refine R.hs (e' := [(3, _), (6, _), (7, _), (8, _)]) ?_
      refine Run.endBlock ?_
      refine R.rg ?_
      refine R.ad ?_
      refine R.mv ?_
      refine R.nl ?_
      refine R.hs (e' := [(3, _), (6, _), (7, _), (8, _)]) ?_
      first | exact Run.again (i + 1, v', q') ⟨by simp <;> omega, by rw [hs1]; exact hO2⟩ (by simp <;> omega) (by refine ⟨rfl, rfl, ?_⟩; repeat (first | exact trivial | refine ⟨rfl, ?_⟩)) (fun w hs => hs.dropMid (a := [_, _])) | exact Run.again (i + 1, v, q0) ⟨by simp <;> omega, by rw [hs1]; exact hO⟩ (by simp <;> omega) (by refine ⟨rfl, rfl, ?_⟩; repeat (first | exact trivial | refine ⟨rfl, ?_⟩)) (fun w hs => hs.drop 1)
    ·
      have hs1 : lvlsV (xs.take (i + 1)) = lvlsV (xs.take i) := by rw [lvlsV_succ hgx, zc3]; simp
      refine Run.skip ?_
      refine Run.endBlock ?_
      refine R.rg ?_
      refine R.ad ?_
      refine R.mv ?_
      refine R.nl ?_
      refine R.hs (e' := [(3, _), (6, _), (7, _), (8, _)]) ?_
      first | exact Run.again (i + 1, v', q') ⟨by simp <;> omega, by rw [hs1]; exact hO2⟩ (by simp <;> omega) (by refine ⟨rfl, rfl, ?_⟩; repeat (first | exact trivial | refine ⟨rfl, ?_⟩)) (fun w hs => hs.dropMid (a := [_, _])) | exact Run.again (i + 1, v, q0) ⟨by simp <;> omega, by rw [hs1]; exact hO⟩ (by simp <;> omega) (by refine ⟨rfl, rfl, ?_⟩; repeat (first | exact trivial | refine ⟨rfl, ?_⟩)) (fun w hs => hs.drop 1)
  ·
    have hz : xs.take i = xs := by simp at zc1; exact List.take_of_length_le (by omega)
    rw [hz] at hO
    have hlen := lvlsV_len xs
    refine Run.exit rfl ?_
    refine R.sq ?_
    refine R.rg ?_
    refine R.mv ?_
    refine R.ca Try.call58 (sortLv_spec hO (Nat.le_trans hlen (Nat.le_trans hn (by decide)))) ?_
    rintro _ _ _ ⟨rfl, rfl, ys, q1, hY, hpy, hsy, rfl⟩
    refine R.nl ?_
    refine R.hs (e' := [(3, _)]) ?_
    refine R.sq ?_
    refine R.rg ?_
    refine R.mv ?_
    refine R.ca Try.call59 (compact_spec (by rw [hpy.length_eq]; exact Nat.le_trans hlen (Nat.le_trans hn (by decide))) hY) ?_
    rintro u _ _ ⟨rfl, q2, hU, rfl⟩
    rw [compL_levels hpy hsy] at hU
    refine R.as ?_
    refine R.nl ?_
    refine R.hs (e' := [(2, _)]) ?_
    refine R.frO hU (fun D' hle hL => ?_)
    exact R.rk (RV.t .nil) 0 ⟨hle, rfl, hL⟩
end Go.Proofs.Ytgdpjpmjcpieiaa
