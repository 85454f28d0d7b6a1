import Derived.Lib.AppendZerosOnto
import Derived.Lib.Overlaps
import Derived.Test.YtgdpjpmjcpieiaaGreatQ5
/- The levels that are told, rising, each once: the document's answer. No condition. -/
namespace Go.Proofs.YtgdpjpmjcpieiaaGreat
open Go
set_option linter.unusedVariables false
set_option linter.unusedSimpArgs false
set_option maxRecDepth 100000
set_option maxHeartbeats 0
abbrev Lvs (D : Dict) (v : Value) (xs : List Lv) : Prop := Lst D 3 Lv.cells v xs
abbrev LR (v : Value) (xs : List Lv) (q : MList) : Prop := OL 3 Lv.cells 28 v xs q
theorem Lv.len (o : Lv) : o.cells.length = 3 := rfl
theorem Lv.ones (x : Lv) : ∀ u ∈ x.cells, u.oneCell' = true := Go.Proofs.YtgdpjpmjcpieiaaGreat.ones (xs := x.cells) rfl
theorem levelsV_succ {xs : List Vw} {i : Nat} {x : Vw} (h : xs[i]? = some x) : levelsV (xs.take (i + 1)) = levelStep (levelsV (xs.take i)) x := by
  rw [take_succ' h]; simp [levelsV, List.foldl_append]
theorem levelsV_no {xs : List Vw} {i : Nat} {x : Vw} (h : xs[i]? = some x) (ht : toldH x.h = false) : levelsV (xs.take (i + 1)) = levelsV (xs.take i) := by
  rw [levelsV_succ h]; simp [levelStep, ht]
theorem levelsV_yes {xs : List Vw} {i : Nat} {x : Vw} (h : xs[i]? = some x) (ht : toldH x.h = true) : levelsV (xs.take (i + 1)) = insL (lvlH x.h) (levelsV (xs.take i)) := by
  rw [levelsV_succ h]; simp [levelStep, ht]
theorem stepL_take {v o : Lv} {out : List Lv} {k : Nat} {p : List Lv × Bool} (h : out[k]? = some o) (hp : p = (out.take k).foldl (stepL v) ([], false)) : (out.take (k + 1)).foldl (stepL v) ([], false) = stepL v p o := by
  rw [take_succ' h, List.foldl_append, ← hp]; rfl
theorem refLevels_spec {g : Gl} {D : Dict} {M : MList} {a : Value} {xs : List Vw} (hn : xs.length ≤ 1000) (ha : Vws D a xs) :
    Gets Tryz.prog g 109 [a] D M (fun v D => Lvs D v (levelsV xs)) := by
  have hla := ha.form.choose_spec.choose_spec.2.2
  refine Gets.enter Tryz.func109 rfl Tryz.ntmps109 ?_; refine R.sq ?_; refine R.rg ?_; refine R.as ?_; refine R.nl ?_; refine R.hs (e' := [(0, _)]) ?_; refine R.sq ?_; refine R.rg ?_; refine R.as ?_; refine R.nl ?_; refine R.hs (e' := [(0, _), (3, _)]) ?_; refine R.sq ?_; refine R.sq ?_; refine R.rg ?_; refine R.as ?_; refine R.nl ?_; refine R.hs (e' := [(0, _), (3, _), (4, _)]) ?_; refine Run.block ?_; refine Run.loop (ι := Nat × Value × MList) [(0, _)] (fun p => [(4, .int .i64 (p.1 : Int)), (3, p.2.1)]) (fun _ => D) (fun p => p.2.2 ++ M) (fun p => p.1 ≤ xs.length ∧ LR p.2.1 (levelsV (xs.take p.1)) p.2.2) (fun p => xs.length - p.1) ((0, .slice none 0 0, [])) (by repeat (first | exact trivial | refine ⟨rfl, ?_⟩)) ?h0 (by repeat (first | exact trivial | refine ⟨rfl, ?_⟩)) (fun w hs => hs) ?_
  case h0 => exact ⟨Nat.zero_le _, OL.nil⟩
  rintro ⟨i, v, q0⟩ ⟨hi, hO⟩
  simp only at hi hO
  refine R.sq ?_; refine R.sq ?_; refine R.rg ?_; refine R.mv ?_; refine R.mv ?_; refine R.ll (ha) Tryz.runUnderlying24 ?_; refine R.cm ?_; refine R.nl ?_; refine R.hs (e' := [(0, _), (3, _), (4, _), (12, _)]) ?_; refine R.cd (fun zc1 => ?_) (fun zc1 => ?_)
  ·
   have hlt : i < xs.length := by simp at zc1; omega
   obtain ⟨x, hgx⟩ := get_of_lt hlt
   obtain ⟨b1, o1, hI1, hc1⟩ := ha.at Vw.len hgx
   have hlen := levelsV_len (xs.take i)
   rw [List.length_take] at hlen
   obtain ⟨A, c, hvf, hl1⟩ := hO.form
   refine Run.skip ?_; refine R.sq ?_; refine Run.block ?_; refine R.sq ?_; refine R.sq ?_; refine R.rg ?_; refine R.mv ?_; refine R.mv ?_; refine R.ix (hI1) Tryz.runUnderlying24 Tryz.sizeOf72 ?_; refine R.fa Tryz.runUnderlying72 Tryz.sizeOf23 ?_; refine R.lAD 6 Tryz.isAgg23 Tryz.sizeOf23 ?_; refine R.cg Tryz.call111 (refTold_spec _) ?_; refine R.nt ?_; refine R.nl ?_; refine R.hs (e' := [(0, _), (3, _), (4, _), (21, _)]) ?_; refine R.cd (fun zc2 => ?_) (fun zc2 => ?_)
   ·
    have hs1 : levelsV (xs.take (i + 1)) = levelsV (xs.take i) := levelsV_no hgx (by simpa using zc2)
    refine Run.exit rfl ?_; refine R.rg ?_; refine R.mv ?_; refine R.ad ?_; refine R.as ?_; refine R.nl ?_; refine R.hs (e' := [(0, _), (3, _), (4, _)]) ?_
    first | exact Run.again (i + 1, v', q') ⟨by simp <;> omega, by rw [hs1]; exact hW⟩ (by simp <;> omega) (by refine ⟨rfl, rfl, ?_⟩; repeat (first | exact trivial | refine ⟨rfl, ?_⟩)) (fun w hs => hs.dropMid (a := _ :: q0)) | exact Run.again (i + 1, r, q3) ⟨by simp <;> omega, by rw [hs1]; exact hW⟩ (by simp <;> omega) (by refine ⟨rfl, rfl, ?_⟩; repeat (first | exact trivial | refine ⟨rfl, ?_⟩)) (fun w hs => hs.dropMid (a := _ :: q0)) | exact Run.again (i + 1, v, q0) ⟨by simp <;> omega, by rw [hs1]; exact hO⟩ (by simp <;> omega) (by refine ⟨rfl, rfl, ?_⟩; repeat (first | exact trivial | refine ⟨rfl, ?_⟩)) (fun w hs => hs)
   ·
    have hs1 : levelsV (xs.take (i + 1)) = insL (lvlH x.h) (levelsV (xs.take i)) := levelsV_yes hgx (by simpa using zc2)
    subst hvf
    generalize levelsV (xs.take i) = out at hO hlen hl1 hs1
    refine Run.skip ?_; refine R.sq ?_; refine R.rg ?_; refine R.mv ?_; refine R.mv ?_; refine R.ix (hI1) Tryz.runUnderlying24 Tryz.sizeOf72 ?_; refine R.fa Tryz.runUnderlying72 Tryz.sizeOf23 ?_; refine R.lAD 6 Tryz.isAgg23 Tryz.sizeOf23 ?_; refine R.cg Tryz.call112 (refLvl_spec _) ?_; refine R.alA Tryz.zeroValue28 (fun zbv hzbv => ?_); refine R.st Tryz.sizeOf28 ?_; refine R.nl ?_
    generalize hlv : lvlH x.h = lv at hs1
    refine R.hs (e' := [(0, _), (3, _), (4, _), (5, _)]) ?_; refine R.sq ?_; refine R.rg ?_; refine R.as ?_; refine R.nl ?_; refine R.hs (e' := [(0, _), (3, _), (4, _), (5, _), (6, _)]) ?_; refine R.sq ?_; refine R.rg ?_; refine R.as ?_; refine R.nl ?_; refine R.hs (e' := [(0, _), (3, _), (4, _), (5, _), (6, _), (7, _)]) ?_; refine R.sq ?_; refine R.sq ?_; refine R.rg ?_; refine R.as ?_; refine R.nl ?_; refine R.hs (e' := [(0, _), (3, _), (4, _), (5, _), (6, _), (7, _), (8, _)]) ?_; refine Run.block ?_
    refine Run.loop (ι := Nat × (List Lv × Bool) × Value × MList) [(0, _), (3, _), (4, _), (5, _)] (fun p => [(8, .int .i64 (p.1 : Int)), (7, .bool p.2.1.2), (6, p.2.2.1)]) (fun _ => D) (fun p => p.2.2.2 ++ ((zbv, .cells (Lv.cells lv).toArray 28 (0, 0)) :: (q0 ++ M))) (fun p => p.1 ≤ out.length ∧ p.2.1 = (out.take p.1).foldl (stepL lv) ([], false) ∧ LR p.2.2.1 p.2.1.1 p.2.2.2) (fun p => out.length - p.1) ((0, ([], false), .slice none 0 0, [])) (by repeat (first | exact trivial | refine ⟨rfl, ?_⟩)) ?h0 (by repeat (first | exact trivial | refine ⟨rfl, ?_⟩)) (fun w hs => hs) ?_
    case h0 => exact ⟨Nat.zero_le _, rfl, OL.nil⟩
    rintro ⟨k, ⟨m, dn⟩, r, q3⟩ ⟨hk, hp, hR⟩
    simp only at hk hp hR
    have hml : m.length ≤ 2 * k := by have := stepL_len lv (out.take k) ([], false); rw [← hp, List.length_take] at this; simp at this; omega
    refine R.sq ?_; refine R.sq ?_; refine R.rg ?_; refine R.mv ?_; refine R.mv ?_; refine R.ln Tryz.runUnderlying116 ?_; refine R.cm ?_; refine R.nl ?_; refine R.hs (e' := [(0, _), (3, _), (4, _), (5, _), (6, _), (7, _), (8, _), (31, _)]) ?_; refine R.cd (fun zc4 => ?_) (fun zc4 => ?_)
    ·
     have hltk : k < out.length := by simp at zc4; omega
     obtain ⟨y, hgy⟩ := get_of_lt hltk
     obtain ⟨b2, o2, hI2, hc2⟩ := hO.at (D := D) (M := q3 ++ ((zbv, .cells (Lv.cells lv).toArray 28 (0, 0)) :: (q0 ++ M))) (fun p hp => List.mem_append_right _ (.tail _ (List.mem_append_left _ hp))) Lv.len hgy
     refine Run.skip ?_; refine R.sq ?_; refine Run.block ?_; refine R.sq ?_; refine R.sq ?_
     rcases Bool.eq_false_or_eq_true (!dn) with zg5 | zg5
     ·refine Run.drawC Grow.eq 8 [(0, _), (3, _), (4, _), (5, _), (6, _), (7, _), (8, _)] mix (by kernel_rfl) (by repeat (first | exact trivial | refine ⟨rfl, ?_⟩)) ?_; apply TC.val []; exact rfl; kernel_rfl
      ·rintro _ rfl ; refine R.mv ?_; refine R.nl ?_; exact Run.loc rfl rfl rfl
      apply TC.val [0]; exact rfl; kernel_rfl
      ·rintro _ rfl _ rfl; refine R.nt ?_; refine R.nl ?_; exact Run.loc rfl rfl rfl
      apply TC.val [0]; exact rfl; kernel_rfl
      ·rintro _ rfl _ rfl; refine R.mv ?_; refine R.nl ?_; exact Run.loc rfl rfl rfl
      apply TC.val [0]; exact rfl; kernel_rfl
      ·rintro _ rfl _ rfl; refine R.gY (zg5) ?_; refine R.lA 3 Tryz.isAgg28 Tryz.sizeOf28 ?_ (hc := CsN.mkM (List.mem_append_right _ (.head _)) rfl); refine R.nl ?_; exact Run.loc rfl rfl rfl
      apply TC.val [1]; exact rfl; kernel_rfl
      ·rintro _ rfl _ rfl; refine R.gY (zg5) ?_; refine R.mv ?_; refine R.nl ?_; exact Run.loc rfl rfl rfl
      apply TC.val [2]; exact rfl; kernel_rfl
      ·rintro _ rfl _ rfl; refine R.gY (zg5) ?_; refine R.mv ?_; refine R.nl ?_; exact Run.loc rfl rfl rfl
      apply TC.val [3, 1, 0]; exact rfl; kernel_rfl
      ·rintro _ rfl _ rfl _ rfl _ rfl; refine R.gY (zg5) ?_; refine R.ix (hI2) Tryz.runUnderlying116 Tryz.sizeOf28 ?_; refine R.nl ?_; exact Run.loc rfl rfl rfl
      apply TC.val [4, 0]; exact rfl; kernel_rfl
      ·rintro _ rfl _ rfl _ rfl; refine R.gY (zg5) ?_; refine R.lAD 3 Tryz.isAgg28 Tryz.sizeOf28 ?_; refine R.nl ?_; exact Run.loc rfl rfl rfl
      refine TC.fin (by rfl) ?_; rintro _ rfl _ rfl _ rfl _ rfl _ rfl _ rfl _ rfl _ rfl _ rfl; refine R.gY (zg5) ?_; refine R.cg Tryz.call134 (refOrd_spec _ _) ?_; refine R.gY (zg5) ?_; refine R.cm ?_; refine R.pT (zg5) ?_; refine R.nl ?_; refine R.hs (e' := [(0, _), (3, _), (4, _), (5, _), (6, _), (7, _), (8, _), (44, _)]) ?_; refine R.cd (fun zc15 => ?_) (fun zc15 => ?_)
      ·refine R.sq ?_; refine R.rg ?_; refine R.mv ?_; refine R.lA 3 Tryz.isAgg28 Tryz.sizeOf28 ?_ (hc := CsN.mkM (List.mem_append_right _ (.head _)) rfl); refine R.bs zc28 Tryz.runUnderlying116 Tryz.sizeOf28 Tryz.zeroValue28 (fun zb16 hzb16 => ?_); refine R.ap Tryz.underlying116 info28 (hR) (permQ (a := [_])) (Src.lit (List.mem_append_right _ (.head _)) rfl) (by omega) (Lv.ones lv) ?_; intro v' q' hO'
       have hR2 : LR v' (m ++ [lv]) q' := OL.snoc hO' rfl
       refine R.as ?_; refine R.nl ?_; refine Run.st (fun w hs => hs.dropMid (a := [_])) ?_
       obtain ⟨b2, o2, hI2, hc2⟩ := hO.at (D := D) (M := q' ++ ((zbv, .cells (Lv.cells lv).toArray 28 (0, 0)) :: (q0 ++ M))) (fun p hp => List.mem_append_right _ (.tail _ (List.mem_append_left _ hp))) Lv.len hgy
       refine R.hs (e' := [(0, _), (3, _), (4, _), (5, _), (6, _), (8, _)]) ?_; refine R.rg ?_; refine R.as ?_; refine R.nl ?_; refine R.hs (e' := [(0, _), (3, _), (4, _), (5, _), (6, _), (7, _), (8, _)]) ?_; refine R.sq ?_; refine Run.drawC Grow.eq 5 [(0, _), (3, _), (4, _), (5, _), (6, _), (7, _), (8, _)] mix (by kernel_rfl) (by repeat (first | exact trivial | refine ⟨rfl, ?_⟩)) ?_; apply TC.val []; exact rfl; kernel_rfl
       ·rintro _ rfl ; refine R.mv ?_; refine R.nl ?_; exact Run.loc rfl rfl rfl
       apply TC.val []; exact rfl; kernel_rfl
       ·rintro _ rfl ; refine R.mv ?_; refine R.nl ?_; exact Run.loc rfl rfl rfl
       apply TC.val [1, 0]; exact rfl; kernel_rfl
       ·rintro _ rfl _ rfl _ rfl; refine R.ix (hI2) Tryz.runUnderlying116 Tryz.sizeOf28 ?_; refine R.nl ?_; exact Run.loc rfl rfl rfl
       apply TC.val [0]; exact rfl; kernel_rfl
       ·rintro _ rfl _ rfl; refine R.lAD 3 Tryz.isAgg28 Tryz.sizeOf28 ?_; refine R.nl ?_; exact Run.loc rfl rfl rfl
       apply TC.val []; exact rfl; kernel_rfl
       ·rintro _ rfl ; refine R.lA 3 Tryz.isAgg28 Tryz.sizeOf28 ?_ (hc := CsN.mkM (List.mem_append_right _ (.head _)) rfl); refine R.nl ?_; exact Run.loc rfl rfl rfl
       refine TC.fin (by rfl) ?_; rintro _ rfl _ rfl _ rfl _ rfl _ rfl _ rfl; refine R.na Tryz.eqGuardType28 (eqAt28 _ _ _ _ _ _) ?_; refine R.nl ?_; refine R.hs (e' := [(0, _), (3, _), (4, _), (5, _), (6, _), (7, _), (8, _), (54, _)]) ?_; refine R.cd (fun zc23 => ?_) (fun zc23 => ?_)
       ·
        have hne : y ≠ lv := by rw [ne_eq, Lv.ext']; simp at zc23; omega
        refine R.rg ?_; refine R.mv ?_; refine R.mv ?_; refine R.mv ?_; refine R.ix (hI2) Tryz.runUnderlying116 Tryz.sizeOf28 ?_; refine R.lAD 3 Tryz.isAgg28 Tryz.sizeOf28 ?_; refine R.bs zc28 Tryz.runUnderlying116 Tryz.sizeOf28 Tryz.zeroValue28 (fun zb24 hzb24 => ?_); refine R.ap Tryz.underlying116 info28 ((by first | exact hR2 | exact hR)) (permQ (a := [_])) (Src.lit (List.mem_append_right _ (.head _)) rfl) (by first | omega | (simp only [List.length_append, List.length_singleton]; omega)) (Lv.ones y) ?_; intro v' q' hO'
        have hR3 := OL.snoc (x := y) hO' rfl
        refine R.as ?_; refine R.nl ?_; refine R.hs (e' := [(0, _), (3, _), (4, _), (5, _), (6, _), (7, _), (8, _)]) ?_; refine Run.endBlock ?_; refine R.rg ?_; refine R.mv ?_; refine R.ad ?_; refine R.as ?_; refine R.nl ?_; refine R.hs (e' := [(0, _), (3, _), (4, _), (5, _), (6, _), (7, _), (8, _)]) ?_
        first | exact Run.again (k + 1, (m ++ [lv] ++ [y], true), v', q') ⟨by simp <;> omega, by rw [stepL_take hgy hp]; clear hp hO hR hc2 hI2 hs1; grind [stepL], hR3⟩ (by simp <;> omega) (by refine ⟨rfl, rfl, rfl, ?_⟩; repeat (first | exact trivial | refine ⟨rfl, ?_⟩)) (fun w hs => hs.dropMid (a := [_])) | exact Run.again (k + 1, (m ++ [y], dn), v', q') ⟨by simp <;> omega, by rw [stepL_take hgy hp]; clear hp hO hR hc2 hI2 hs1; grind [stepL], hR3⟩ (by simp <;> omega) (by refine ⟨rfl, rfl, rfl, ?_⟩; repeat (first | exact trivial | refine ⟨rfl, ?_⟩)) (fun w hs => hs.dropMid (a := [_])) | exact Run.again (k + 1, (m ++ [lv], true), v', q') ⟨by simp <;> omega, by rw [stepL_take hgy hp]; clear hp hO hR hc2 hI2 hs1; grind [stepL], hR2⟩ (by simp <;> omega) (by refine ⟨rfl, rfl, rfl, ?_⟩; repeat (first | exact trivial | refine ⟨rfl, ?_⟩)) (fun w hs => hs) | exact Run.again (k + 1, (m, dn), r, q3) ⟨by simp <;> omega, by rw [stepL_take hgy hp]; clear hp hO hR hc2 hI2 hs1; grind [stepL], hR⟩ (by simp <;> omega) (by refine ⟨rfl, rfl, rfl, ?_⟩; repeat (first | exact trivial | refine ⟨rfl, ?_⟩)) (fun w hs => hs)
       ·
        have hne : y = lv := by rw [Lv.ext']; simpa using zc23
        refine Run.skip ?_; refine Run.endBlock ?_; refine R.rg ?_; refine R.mv ?_; refine R.ad ?_; refine R.as ?_; refine R.nl ?_; refine R.hs (e' := [(0, _), (3, _), (4, _), (5, _), (6, _), (7, _), (8, _)]) ?_
        first | exact Run.again (k + 1, (m ++ [lv] ++ [y], true), v', q') ⟨by simp <;> omega, by rw [stepL_take hgy hp]; clear hp hO hR hc2 hI2 hs1; grind [stepL], hR3⟩ (by simp <;> omega) (by refine ⟨rfl, rfl, rfl, ?_⟩; repeat (first | exact trivial | refine ⟨rfl, ?_⟩)) (fun w hs => hs.dropMid (a := [_])) | exact Run.again (k + 1, (m ++ [y], dn), v', q') ⟨by simp <;> omega, by rw [stepL_take hgy hp]; clear hp hO hR hc2 hI2 hs1; grind [stepL], hR3⟩ (by simp <;> omega) (by refine ⟨rfl, rfl, rfl, ?_⟩; repeat (first | exact trivial | refine ⟨rfl, ?_⟩)) (fun w hs => hs.dropMid (a := [_])) | exact Run.again (k + 1, (m ++ [lv], true), v', q') ⟨by simp <;> omega, by rw [stepL_take hgy hp]; clear hp hO hR hc2 hI2 hs1; grind [stepL], hR2⟩ (by simp <;> omega) (by refine ⟨rfl, rfl, rfl, ?_⟩; repeat (first | exact trivial | refine ⟨rfl, ?_⟩)) (fun w hs => hs) | exact Run.again (k + 1, (m, dn), r, q3) ⟨by simp <;> omega, by rw [stepL_take hgy hp]; clear hp hO hR hc2 hI2 hs1; grind [stepL], hR⟩ (by simp <;> omega) (by refine ⟨rfl, rfl, rfl, ?_⟩; repeat (first | exact trivial | refine ⟨rfl, ?_⟩)) (fun w hs => hs)
      ·refine Run.skip ?_; refine R.sq ?_; refine Run.drawC Grow.eq 5 [(0, _), (3, _), (4, _), (5, _), (6, _), (7, _), (8, _)] mix (by kernel_rfl) (by repeat (first | exact trivial | refine ⟨rfl, ?_⟩)) ?_; apply TC.val []; exact rfl; kernel_rfl
       ·rintro _ rfl ; refine R.mv ?_; refine R.nl ?_; exact Run.loc rfl rfl rfl
       apply TC.val []; exact rfl; kernel_rfl
       ·rintro _ rfl ; refine R.mv ?_; refine R.nl ?_; exact Run.loc rfl rfl rfl
       apply TC.val [1, 0]; exact rfl; kernel_rfl
       ·rintro _ rfl _ rfl _ rfl; refine R.ix (hI2) Tryz.runUnderlying116 Tryz.sizeOf28 ?_; refine R.nl ?_; exact Run.loc rfl rfl rfl
       apply TC.val [0]; exact rfl; kernel_rfl
       ·rintro _ rfl _ rfl; refine R.lAD 3 Tryz.isAgg28 Tryz.sizeOf28 ?_; refine R.nl ?_; exact Run.loc rfl rfl rfl
       apply TC.val []; exact rfl; kernel_rfl
       ·rintro _ rfl ; refine R.lA 3 Tryz.isAgg28 Tryz.sizeOf28 ?_ (hc := CsN.mkM (List.mem_append_right _ (.head _)) rfl); refine R.nl ?_; exact Run.loc rfl rfl rfl
       refine TC.fin (by rfl) ?_; rintro _ rfl _ rfl _ rfl _ rfl _ rfl _ rfl; refine R.na Tryz.eqGuardType28 (eqAt28 _ _ _ _ _ _) ?_; refine R.nl ?_; refine R.hs (e' := [(0, _), (3, _), (4, _), (5, _), (6, _), (7, _), (8, _), (54, _)]) ?_; refine R.cd (fun zc31 => ?_) (fun zc31 => ?_)
       ·
        have hne : y ≠ lv := by rw [ne_eq, Lv.ext']; simp at zc31; omega
        refine R.rg ?_; refine R.mv ?_; refine R.mv ?_; refine R.mv ?_; refine R.ix (hI2) Tryz.runUnderlying116 Tryz.sizeOf28 ?_; refine R.lAD 3 Tryz.isAgg28 Tryz.sizeOf28 ?_; refine R.bs zc28 Tryz.runUnderlying116 Tryz.sizeOf28 Tryz.zeroValue28 (fun zb32 hzb32 => ?_); refine R.ap Tryz.underlying116 info28 ((by first | exact hR2 | exact hR)) (permQ (a := [_])) (Src.lit (List.mem_append_right _ (.head _)) rfl) (by first | omega | (simp only [List.length_append, List.length_singleton]; omega)) (Lv.ones y) ?_; intro v' q' hO'
        have hR3 := OL.snoc (x := y) hO' rfl
        refine R.as ?_; refine R.nl ?_; refine R.hs (e' := [(0, _), (3, _), (4, _), (5, _), (6, _), (7, _), (8, _)]) ?_; refine Run.endBlock ?_; refine R.rg ?_; refine R.mv ?_; refine R.ad ?_; refine R.as ?_; refine R.nl ?_; refine R.hs (e' := [(0, _), (3, _), (4, _), (5, _), (6, _), (7, _), (8, _)]) ?_
        first | exact Run.again (k + 1, (m ++ [lv] ++ [y], true), v', q') ⟨by simp <;> omega, by rw [stepL_take hgy hp]; clear hp hO hR hc2 hI2 hs1; grind [stepL], hR3⟩ (by simp <;> omega) (by refine ⟨rfl, rfl, rfl, ?_⟩; repeat (first | exact trivial | refine ⟨rfl, ?_⟩)) (fun w hs => hs.dropMid (a := [_])) | exact Run.again (k + 1, (m ++ [y], dn), v', q') ⟨by simp <;> omega, by rw [stepL_take hgy hp]; clear hp hO hR hc2 hI2 hs1; grind [stepL], hR3⟩ (by simp <;> omega) (by refine ⟨rfl, rfl, rfl, ?_⟩; repeat (first | exact trivial | refine ⟨rfl, ?_⟩)) (fun w hs => hs.dropMid (a := [_])) | exact Run.again (k + 1, (m ++ [lv], true), v', q') ⟨by simp <;> omega, by rw [stepL_take hgy hp]; clear hp hO hR hc2 hI2 hs1; grind [stepL], hR2⟩ (by simp <;> omega) (by refine ⟨rfl, rfl, rfl, ?_⟩; repeat (first | exact trivial | refine ⟨rfl, ?_⟩)) (fun w hs => hs) | exact Run.again (k + 1, (m, dn), r, q3) ⟨by simp <;> omega, by rw [stepL_take hgy hp]; clear hp hO hR hc2 hI2 hs1; grind [stepL], hR⟩ (by simp <;> omega) (by refine ⟨rfl, rfl, rfl, ?_⟩; repeat (first | exact trivial | refine ⟨rfl, ?_⟩)) (fun w hs => hs)
       ·
        have hne : y = lv := by rw [Lv.ext']; simpa using zc31
        refine Run.skip ?_; refine Run.endBlock ?_; refine R.rg ?_; refine R.mv ?_; refine R.ad ?_; refine R.as ?_; refine R.nl ?_; refine R.hs (e' := [(0, _), (3, _), (4, _), (5, _), (6, _), (7, _), (8, _)]) ?_
        first | exact Run.again (k + 1, (m ++ [lv] ++ [y], true), v', q') ⟨by simp <;> omega, by rw [stepL_take hgy hp]; clear hp hO hR hc2 hI2 hs1; grind [stepL], hR3⟩ (by simp <;> omega) (by refine ⟨rfl, rfl, rfl, ?_⟩; repeat (first | exact trivial | refine ⟨rfl, ?_⟩)) (fun w hs => hs.dropMid (a := [_])) | exact Run.again (k + 1, (m ++ [y], dn), v', q') ⟨by simp <;> omega, by rw [stepL_take hgy hp]; clear hp hO hR hc2 hI2 hs1; grind [stepL], hR3⟩ (by simp <;> omega) (by refine ⟨rfl, rfl, rfl, ?_⟩; repeat (first | exact trivial | refine ⟨rfl, ?_⟩)) (fun w hs => hs.dropMid (a := [_])) | exact Run.again (k + 1, (m ++ [lv], true), v', q') ⟨by simp <;> omega, by rw [stepL_take hgy hp]; clear hp hO hR hc2 hI2 hs1; grind [stepL], hR2⟩ (by simp <;> omega) (by refine ⟨rfl, rfl, rfl, ?_⟩; repeat (first | exact trivial | refine ⟨rfl, ?_⟩)) (fun w hs => hs) | exact Run.again (k + 1, (m, dn), r, q3) ⟨by simp <;> omega, by rw [stepL_take hgy hp]; clear hp hO hR hc2 hI2 hs1; grind [stepL], hR⟩ (by simp <;> omega) (by refine ⟨rfl, rfl, rfl, ?_⟩; repeat (first | exact trivial | refine ⟨rfl, ?_⟩)) (fun w hs => hs)
     ·refine Run.drawC Grow.eq 8 [(0, _), (3, _), (4, _), (5, _), (6, _), (7, _), (8, _)] mix (by kernel_rfl) (by repeat (first | exact trivial | refine ⟨rfl, ?_⟩)) ?_; apply TC.val []; exact rfl; kernel_rfl
      ·rintro _ rfl ; refine R.mv ?_; refine R.nl ?_; exact Run.loc rfl rfl rfl
      apply TC.val [0]; exact rfl; kernel_rfl
      ·rintro _ rfl _ rfl; refine R.nt ?_; refine R.nl ?_; exact Run.loc rfl rfl rfl
      apply TC.val [0]; exact rfl; kernel_rfl
      ·rintro _ rfl _ rfl; refine R.mv ?_; refine R.nl ?_; exact Run.loc rfl rfl rfl
      apply TC.val [0]; exact rfl; kernel_rfl
      ·rintro _ rfl _ rfl; refine R.gF (zg5) ?_; refine R.nl ?_; exact Run.loc rfl rfl rfl
      apply TC.val [1]; exact rfl; kernel_rfl
      ·rintro _ rfl _ rfl; refine R.gF (zg5) ?_; refine R.nl ?_; exact Run.loc rfl rfl rfl
      apply TC.val [2]; exact rfl; kernel_rfl
      ·rintro _ rfl _ rfl; refine R.gF (zg5) ?_; refine R.nl ?_; exact Run.loc rfl rfl rfl
      apply TC.val [3, 1, 0]; exact rfl; kernel_rfl
      ·rintro _ rfl _ rfl _ rfl _ rfl; refine R.gF (zg5) ?_; refine R.nl ?_; exact Run.loc rfl rfl rfl
      apply TC.val [4, 0]; exact rfl; kernel_rfl
      ·rintro _ rfl _ rfl _ rfl; refine R.gF (zg5) ?_; refine R.nl ?_; exact Run.loc rfl rfl rfl
      refine TC.fin (by rfl) ?_; rintro _ rfl _ rfl _ rfl _ rfl _ rfl _ rfl _ rfl _ rfl _ rfl; refine R.gF (zg5) ?_; refine R.gF (zg5) ?_; refine R.pF (zg5) ?_; refine R.nl ?_; refine R.hs (e' := [(0, _), (3, _), (4, _), (5, _), (6, _), (7, _), (8, _), (44, _)]) ?_; refine R.cF (rfl) ?_; refine Run.skip ?_; refine R.sq ?_; refine Run.drawC Grow.eq 5 [(0, _), (3, _), (4, _), (5, _), (6, _), (7, _), (8, _)] mix (by kernel_rfl) (by repeat (first | exact trivial | refine ⟨rfl, ?_⟩)) ?_; apply TC.val []; exact rfl; kernel_rfl
      ·rintro _ rfl ; refine R.mv ?_; refine R.nl ?_; exact Run.loc rfl rfl rfl
      apply TC.val []; exact rfl; kernel_rfl
      ·rintro _ rfl ; refine R.mv ?_; refine R.nl ?_; exact Run.loc rfl rfl rfl
      apply TC.val [1, 0]; exact rfl; kernel_rfl
      ·rintro _ rfl _ rfl _ rfl; refine R.ix (hI2) Tryz.runUnderlying116 Tryz.sizeOf28 ?_; refine R.nl ?_; exact Run.loc rfl rfl rfl
      apply TC.val [0]; exact rfl; kernel_rfl
      ·rintro _ rfl _ rfl; refine R.lAD 3 Tryz.isAgg28 Tryz.sizeOf28 ?_; refine R.nl ?_; exact Run.loc rfl rfl rfl
      apply TC.val []; exact rfl; kernel_rfl
      ·rintro _ rfl ; refine R.lA 3 Tryz.isAgg28 Tryz.sizeOf28 ?_ (hc := CsN.mkM (List.mem_append_right _ (.head _)) rfl); refine R.nl ?_; exact Run.loc rfl rfl rfl
      refine TC.fin (by rfl) ?_; rintro _ rfl _ rfl _ rfl _ rfl _ rfl _ rfl; refine R.na Tryz.eqGuardType28 (eqAt28 _ _ _ _ _ _) ?_; refine R.nl ?_; refine R.hs (e' := [(0, _), (3, _), (4, _), (5, _), (6, _), (7, _), (8, _), (54, _)]) ?_; refine R.cd (fun zc48 => ?_) (fun zc48 => ?_)
      ·
       have hne : y ≠ lv := by rw [ne_eq, Lv.ext']; simp at zc48; omega
       refine R.rg ?_; refine R.mv ?_; refine R.mv ?_; refine R.mv ?_; refine R.ix (hI2) Tryz.runUnderlying116 Tryz.sizeOf28 ?_; refine R.lAD 3 Tryz.isAgg28 Tryz.sizeOf28 ?_; refine R.bs zc28 Tryz.runUnderlying116 Tryz.sizeOf28 Tryz.zeroValue28 (fun zb49 hzb49 => ?_); refine R.ap Tryz.underlying116 info28 ((by first | exact hR2 | exact hR)) (permQ (a := [_])) (Src.lit (List.mem_append_right _ (.head _)) rfl) (by first | omega | (simp only [List.length_append, List.length_singleton]; omega)) (Lv.ones y) ?_; intro v' q' hO'
       have hR3 := OL.snoc (x := y) hO' rfl
       refine R.as ?_; refine R.nl ?_; refine R.hs (e' := [(0, _), (3, _), (4, _), (5, _), (6, _), (7, _), (8, _)]) ?_; refine Run.endBlock ?_; refine R.rg ?_; refine R.mv ?_; refine R.ad ?_; refine R.as ?_; refine R.nl ?_; refine R.hs (e' := [(0, _), (3, _), (4, _), (5, _), (6, _), (7, _), (8, _)]) ?_
       first | exact Run.again (k + 1, (m ++ [lv] ++ [y], true), v', q') ⟨by simp <;> omega, by rw [stepL_take hgy hp]; clear hp hO hR hc2 hI2 hs1; grind [stepL], hR3⟩ (by simp <;> omega) (by refine ⟨rfl, rfl, rfl, ?_⟩; repeat (first | exact trivial | refine ⟨rfl, ?_⟩)) (fun w hs => hs.dropMid (a := [_])) | exact Run.again (k + 1, (m ++ [y], dn), v', q') ⟨by simp <;> omega, by rw [stepL_take hgy hp]; clear hp hO hR hc2 hI2 hs1; grind [stepL], hR3⟩ (by simp <;> omega) (by refine ⟨rfl, rfl, rfl, ?_⟩; repeat (first | exact trivial | refine ⟨rfl, ?_⟩)) (fun w hs => hs.dropMid (a := [_])) | exact Run.again (k + 1, (m ++ [lv], true), v', q') ⟨by simp <;> omega, by rw [stepL_take hgy hp]; clear hp hO hR hc2 hI2 hs1; grind [stepL], hR2⟩ (by simp <;> omega) (by refine ⟨rfl, rfl, rfl, ?_⟩; repeat (first | exact trivial | refine ⟨rfl, ?_⟩)) (fun w hs => hs) | exact Run.again (k + 1, (m, dn), r, q3) ⟨by simp <;> omega, by rw [stepL_take hgy hp]; clear hp hO hR hc2 hI2 hs1; grind [stepL], hR⟩ (by simp <;> omega) (by refine ⟨rfl, rfl, rfl, ?_⟩; repeat (first | exact trivial | refine ⟨rfl, ?_⟩)) (fun w hs => hs)
      ·
       have hne : y = lv := by rw [Lv.ext']; simpa using zc48
       refine Run.skip ?_; refine Run.endBlock ?_; refine R.rg ?_; refine R.mv ?_; refine R.ad ?_; refine R.as ?_; refine R.nl ?_; refine R.hs (e' := [(0, _), (3, _), (4, _), (5, _), (6, _), (7, _), (8, _)]) ?_
       first | exact Run.again (k + 1, (m ++ [lv] ++ [y], true), v', q') ⟨by simp <;> omega, by rw [stepL_take hgy hp]; clear hp hO hR hc2 hI2 hs1; grind [stepL], hR3⟩ (by simp <;> omega) (by refine ⟨rfl, rfl, rfl, ?_⟩; repeat (first | exact trivial | refine ⟨rfl, ?_⟩)) (fun w hs => hs.dropMid (a := [_])) | exact Run.again (k + 1, (m ++ [y], dn), v', q') ⟨by simp <;> omega, by rw [stepL_take hgy hp]; clear hp hO hR hc2 hI2 hs1; grind [stepL], hR3⟩ (by simp <;> omega) (by refine ⟨rfl, rfl, rfl, ?_⟩; repeat (first | exact trivial | refine ⟨rfl, ?_⟩)) (fun w hs => hs.dropMid (a := [_])) | exact Run.again (k + 1, (m ++ [lv], true), v', q') ⟨by simp <;> omega, by rw [stepL_take hgy hp]; clear hp hO hR hc2 hI2 hs1; grind [stepL], hR2⟩ (by simp <;> omega) (by refine ⟨rfl, rfl, rfl, ?_⟩; repeat (first | exact trivial | refine ⟨rfl, ?_⟩)) (fun w hs => hs) | exact Run.again (k + 1, (m, dn), r, q3) ⟨by simp <;> omega, by rw [stepL_take hgy hp]; clear hp hO hR hc2 hI2 hs1; grind [stepL], hR⟩ (by simp <;> omega) (by refine ⟨rfl, rfl, rfl, ?_⟩; repeat (first | exact trivial | refine ⟨rfl, ?_⟩)) (fun w hs => hs)
    ·
     have hzk : out.take k = out := by simp at zc4; exact List.take_of_length_le (by omega)
     rw [hzk] at hp
     refine Run.exit rfl ?_; refine R.sq ?_; refine R.sq ?_; refine R.rg ?_; refine R.mv ?_; refine R.nt ?_; refine R.nl ?_; refine R.hs (e' := [(0, _), (4, _), (5, _), (6, _), (63, _)]) ?_; refine R.cd (fun zc50 => ?_) (fun zc50 => ?_)
     ·
      have hdn : dn = false := by simpa using zc50
      have hW0 : insL lv out = m ++ [lv] := by simp [insL, ← hp, hdn]
      refine R.rg ?_; refine R.mv ?_; refine R.lA 3 Tryz.isAgg28 Tryz.sizeOf28 ?_ (hc := CsN.mkM (List.mem_append_right _ (.head _)) rfl); refine R.bs zc28 Tryz.runUnderlying116 Tryz.sizeOf28 Tryz.zeroValue28 (fun zb51 hzb51 => ?_); refine R.ap Tryz.underlying116 info28 (hR) (permQ (a := [_])) (Src.lit (List.mem_append_right _ (.head _)) rfl) (by omega) (Lv.ones lv) ?_; intro v' q' hO'
      have hR2 : LR v' (m ++ [lv]) q' := OL.snoc hO' rfl
      refine R.as ?_; refine R.nl ?_; refine Run.st (fun w hs => hs.dropMid (a := [_])) ?_
      have hW : LR v' (insL lv out) q' := by rw [hW0]; exact hR2
      refine R.hs (e' := [(0, _), (4, _), (6, _)]) ?_; refine R.rg ?_; refine R.mv ?_; refine R.as ?_; refine R.nl ?_; refine R.hs (e' := [(0, _), (3, _), (4, _)]) ?_; refine Run.endBlock ?_; refine R.rg ?_; refine R.mv ?_; refine R.ad ?_; refine R.as ?_; refine R.nl ?_; refine R.hs (e' := [(0, _), (3, _), (4, _)]) ?_
      first | exact Run.again (i + 1, v', q') ⟨by simp <;> omega, by rw [hs1]; exact hW⟩ (by simp <;> omega) (by refine ⟨rfl, rfl, ?_⟩; repeat (first | exact trivial | refine ⟨rfl, ?_⟩)) (fun w hs => hs.dropMid (a := _ :: q0)) | exact Run.again (i + 1, r, q3) ⟨by simp <;> omega, by rw [hs1]; exact hW⟩ (by simp <;> omega) (by refine ⟨rfl, rfl, ?_⟩; repeat (first | exact trivial | refine ⟨rfl, ?_⟩)) (fun w hs => hs.dropMid (a := _ :: q0)) | exact Run.again (i + 1, v, q0) ⟨by simp <;> omega, by rw [hs1]; exact hO⟩ (by simp <;> omega) (by refine ⟨rfl, rfl, ?_⟩; repeat (first | exact trivial | refine ⟨rfl, ?_⟩)) (fun w hs => hs)
     ·
      have hdn : dn = true := by simpa using zc50
      have hW0 : insL lv out = m := by simp [insL, ← hp, hdn]
      have hW : LR r (insL lv out) q3 := by rw [hW0]; exact hR
      refine Run.skip ?_; refine R.rg ?_; refine R.mv ?_; refine R.as ?_; refine R.nl ?_; refine R.hs (e' := [(0, _), (3, _), (4, _)]) ?_; refine Run.endBlock ?_; refine R.rg ?_; refine R.mv ?_; refine R.ad ?_; refine R.as ?_; refine R.nl ?_; refine R.hs (e' := [(0, _), (3, _), (4, _)]) ?_
      first | exact Run.again (i + 1, v', q') ⟨by simp <;> omega, by rw [hs1]; exact hW⟩ (by simp <;> omega) (by refine ⟨rfl, rfl, ?_⟩; repeat (first | exact trivial | refine ⟨rfl, ?_⟩)) (fun w hs => hs.dropMid (a := _ :: q0)) | exact Run.again (i + 1, r, q3) ⟨by simp <;> omega, by rw [hs1]; exact hW⟩ (by simp <;> omega) (by refine ⟨rfl, rfl, ?_⟩; repeat (first | exact trivial | refine ⟨rfl, ?_⟩)) (fun w hs => hs.dropMid (a := _ :: q0)) | exact Run.again (i + 1, v, q0) ⟨by simp <;> omega, by rw [hs1]; exact hO⟩ (by simp <;> omega) (by refine ⟨rfl, rfl, ?_⟩; repeat (first | exact trivial | refine ⟨rfl, ?_⟩)) (fun w hs => hs)
  ·
   have hz : xs.take i = xs := by simp at zc1; exact List.take_of_length_le (by omega)
   refine Run.exit rfl ?_; refine R.sq ?_; refine R.rg ?_; refine R.mv ?_; refine R.as ?_; refine R.nl ?_; refine R.hs (e' := [(2, _)]) ?_
   rw [hz] at hO
   refine R.frO hO (fun D' hle hL => ?_); exact R.rk (RV.t .nil) 0 ⟨hle, rfl, hL⟩
end Go.Proofs.YtgdpjpmjcpieiaaGreat

/- What maintenance says of a height, of views, of a time. No condition. -/
namespace Go.Proofs.YtgdpjpmjcpieiaaGreat
open Go
set_option linter.unusedVariables false
set_option linter.unusedSimpArgs false
def topL (xs : List Vw) : Lv := (levelsV xs).getLastD ⟨0, 0, 0⟩
def atO (l : Lv) (d i : Int) : Ht × Int := (if okH (atH l d i) then atH l d i else z0H, errA (okH (atH l d i)))
def genO (now me : Int) : Ht × Int := (if okH (genT now me) then genT now me else z0H, errA (okH (genT now me)))
def caseAt (p : Ht × Int) (c : Int) : Ht × Int × Int := (if p.2 = 0 then p.1 else z0H, if p.2 = 0 then c else 0, p.2)
def okCase (own : Ht) (xs : List Vw) (now : Int) : Bool := okH own && okVs xs && decide (0 ≤ now ∧ now ≤ 4611686018427387903)
def ruleIs (own : Ht) (xs : List Vw) (lost : Bool) : Nat → Bool
  | 0 => own.null || decide (0 < (someV own 1 xs).length)
  | 1 => decide ((levelsV xs).length = 0)
  | 2 => lost
  | 3 => decide (1 < (levelsV xs).length)
  | 4 => decide ((topL xs).r = 0)
  | 5 => decide ((topL xs).oid = own.id)
  | _ => true
def ruleSays (own : Ht) (xs : List Vw) (now : Int) : Nat → Ht × Int
  | 0 => (own, 0)
  | 1 => (nullH own.id, 0)
  | 2 => genO now own.id
  | 3 => atO (topL xs) (leastV xs (topL xs) - 1) own.id
  | 4 => atO ⟨(topL xs).tau, (topL xs).oid, 1⟩ 0 own.id
  | 5 => (nullH own.id, 0)
  | _ => genO now own.id
def ruleNo : Nat → Int
  | 0 => 0
  | 1 => 6
  | 2 => 1
  | 3 => 2
  | 4 => 3
  | 5 => 4
  | _ => 5
def ruleAt (own : Ht) (xs : List Vw) (now : Int) (i : Nat) : Ht × Int × Int := caseAt (ruleSays own xs now i) (ruleNo i)
/-- P19.2 -/
def caseV (own : Ht) (xs : List Vw) (now : Int) (lost : Bool) : Ht × Int × Int :=
  if !okCase own xs now then (z0H, 0, 1)
  else if ruleIs own xs lost 0 then ruleAt own xs now 0
  else if ruleIs own xs lost 1 then ruleAt own xs now 1
  else if ruleIs own xs lost 2 then ruleAt own xs now 2
  else if ruleIs own xs lost 3 then ruleAt own xs now 3
  else if ruleIs own xs lost 4 then ruleAt own xs now 4
  else if ruleIs own xs lost 5 then ruleAt own xs now 5
  else ruleAt own xs now 6
theorem case_rule {own : Ht} {xs : List Vw} {now : Int} {lost : Bool} {i : Nat} (hok : okCase own xs now = true) (hi : i < 7) (hf : ∀ j, j < i → ruleIs own xs lost j = false) (ht : ruleIs own xs lost i = true) : caseV own xs now lost = ruleAt own xs now i := by
  unfold caseV
  rw [hok]
  match i, hi with
  | 0, _ => simp [ht]
  | 1, _ => simp [hf 0 (by omega), ht]
  | 2, _ => simp [hf 0 (by omega), hf 1 (by omega), ht]
  | 3, _ => simp [hf 0 (by omega), hf 1 (by omega), hf 2 (by omega), ht]
  | 4, _ => simp [hf 0 (by omega), hf 1 (by omega), hf 2 (by omega), hf 3 (by omega), ht]
  | 5, _ => simp [hf 0 (by omega), hf 1 (by omega), hf 2 (by omega), hf 3 (by omega), hf 4 (by omega), ht]
  | 6, _ => simp [hf 0 (by omega), hf 1 (by omega), hf 2 (by omega), hf 3 (by omega), hf 4 (by omega), hf 5 (by omega)]
theorem upto {f : Nat → Bool} {i : Nat} (h : ∀ j, j < i → f j = false) (hi : f i = false) : ∀ j, j < i + 1 → f j = false := fun j hj => by
  rcases Nat.lt_or_ge j i with h1 | h1
  · exact h j h1
  · rw [show j = i by omega]; exact hi
theorem upto0 {f : Nat → Bool} : ∀ j, j < 0 → f j = false := fun j hj => by omega
theorem leastV_range (xs : List Vw) (l : Lv) : -1099511627776 ≤ leastV xs l ∧ leastV xs l ≤ 1099511627776 := by
  have key : ∀ (xs : List Vw) (n : Int), -1099511627776 ≤ n → n ≤ 1099511627776 → -1099511627776 ≤ xs.foldl (leastStep l) n ∧ xs.foldl (leastStep l) n ≤ 1099511627776 := by
    intro xs
    induction xs with
    | nil => exact fun n h1 h2 => ⟨h1, h2⟩
    | cons x r ih =>
      intro n h1 h2
      rw [List.foldl_cons]
      refine ih _ ?_ ?_ <;> unfold leastStep
      · split
        · rename_i h
          simp only [Bool.and_eq_true, toldH, okH, Bool.not_eq_true', decide_eq_true_eq] at h
          obtain ⟨⟨⟨⟨_, _, h3⟩, h4⟩, _⟩, _⟩ := h
          rw [h4] at h3
          simp at h3
          omega
        · exact h1
      · split
        · rename_i h
          simp only [Bool.and_eq_true, decide_eq_true_eq] at h
          omega
        · exact h2
  exact key xs _ (by decide) (by decide)
theorem topL_at {xs : List Vw} {y : Lv} (h : (levelsV xs)[(levelsV xs).length - 1]? = some y) : topL xs = y := by
  unfold topL
  rw [List.getLastD_eq_getLast?, List.getLast?_eq_getElem?, h]; rfl
theorem topL_nil {xs : List Vw} (h : (levelsV xs).length = 0) : topL xs = ⟨0, 0, 0⟩ := by
  unfold topL
  rw [List.eq_nil_of_length_eq_zero h]; rfl
abbrev caseOut (r : Ht × Int × Int) : Value := .tuple #[.agg (Ht.cells r.1).toArray, .int .i64 r.2.1, .int .i64 r.2.2]
end Go.Proofs.YtgdpjpmjcpieiaaGreat

/- What maintenance and adoption keep to: heights rise, and what is down then. No condition. -/
namespace Go.Proofs.YtgdpjpmjcpieiaaGreat
open Go
set_option linter.unusedVariables false
set_option linter.unusedSimpArgs false
def lvH (h : Ht) : Lv := ⟨h.tau, h.oid, h.r⟩
theorem lvlH_told {h : Ht} (ht : toldH h = true) : lvlH h = lvH h := by simp [lvlH, ht, lvH]
def ltH (a b : Ht) : Prop := ltL (lvH a) (lvH b) ∨ (lvH a = lvH b ∧ (a.delta < b.delta ∨ (a.delta = b.delta ∧ a.id < b.id)))
theorem lessH_iff (a b : Ht) : lessH a b = true ↔ toldH a = true ∧ toldH b = true ∧ ltH a b := by
  unfold lessH
  rw [Bool.and_eq_true, Bool.and_eq_true, decide_eq_true_eq, and_assoc]
  refine and_congr_right fun ha => and_congr_right fun hb => ?_
  rw [lvlH_told ha, lvlH_told hb]
  unfold ltH
  rw [← ordL_lt, ← ordL_eq]
  simp only [orI, cmpI]
  grind
theorem ltH.irr (a : Ht) : ¬ ltH a a := by
  unfold ltH; have := ltL.irr (lvH a); grind
theorem ltH.trans {a b c : Ht} (h : ltH a b) (h' : ltH b c) : ltH a c := by
  unfold ltH at *
  rcases h with h | ⟨h1, h2⟩
  · rcases h' with h' | ⟨h3, _⟩
    · exact .inl (h.trans h')
    · exact .inl (h3 ▸ h)
  · rcases h' with h' | ⟨h3, h4⟩
    · exact .inl (h1 ▸ h')
    · exact .inr ⟨h1.trans h3, by omega⟩
theorem ltH.tri {a b : Ht} (h : a.id ≠ b.id) : ltH a b ∨ ltH b a := by
  unfold ltH
  rcases ltL.tri (lvH a) (lvH b) with h1 | h1 | h1
  · exact .inl (.inl h1)
  · have : a.delta < b.delta ∨ (a.delta = b.delta ∧ a.id < b.id) ∨ b.delta < a.delta ∨ (b.delta = a.delta ∧ b.id < a.id) := by omega
    rcases this with h2 | h2 | h2 | h2
    · exact .inl (.inr ⟨h1, .inl h2⟩)
    · exact .inl (.inr ⟨h1, .inr h2⟩)
    · exact .inr (.inr ⟨h1.symm, .inl h2⟩)
    · exact .inr (.inr ⟨h1.symm, .inr h2⟩)
  · exact .inr (.inl h1)
theorem ltH.lv {a b : Ht} (h : ltH a b) : ltL (lvH a) (lvH b) ∨ lvH a = lvH b := by
  unfold ltH at h; rcases h with h | ⟨h, _⟩
  · exact .inl h
  · exact .inr h
/-- which way, among told ones -/
theorem dir_down {own h : Ht} (ho : toldH own = true) : dirH own h = 1 ↔ lessH h own = true := by
  have hx : lessH h own = true → toldH h = true := fun h1 => ((lessH_iff _ _).1 h1).1
  unfold dirH
  cases h1 : toldH h <;> cases h2 : lessH h own <;> cases h3 : lessH own h <;> simp_all
theorem dir_up {own h : Ht} (ho : toldH own = true) : dirH own h = 2 ↔ lessH own h = true := by
  have hx : lessH h own = true → lessH own h = true → False := fun h1 h2 => by
    rw [lessH_iff] at h1 h2
    exact ltH.irr _ (h1.2.2.trans h2.2.2)
  have hy : lessH own h = true → toldH h = true := fun h1 => ((lessH_iff _ _).1 h1).2.1
  unfold dirH
  cases h1 : toldH h <;> cases h2 : lessH h own <;> cases h3 : lessH own h <;> simp_all
def lateV (now : Int) (own : Ht) (xs : List Vw) : Bool := xs.all (fun x => decide (x.h.tau < now)) && decide (own.tau < now)
theorem told_gen {now me : Int} (h : okH (genT now me) = true) : toldH (genT now me) = true := by rw [toldH, h]; rfl
theorem told_at {l : Lv} {d i : Int} (h : okH (atH l d i) = true) : toldH (atH l d i) = true := by rw [toldH, h]; rfl
theorem errA_ok {b : Bool} (h : errA b = 0) : b = true := by cases b <;> simp [errA] at h ⊢
/-- how a case comes about -/
inductive CaseIs (own : Ht) (xs : List Vw) (now : Int) (lost : Bool) (h : Ht) (c : Int) : Prop
  | stay (h1 : h = own) (h2 : c = 0) (h3 : own.null = true ∨ 0 < (someV own 1 xs).length)
  | alone (h1 : h = nullH own.id) (h2 : c = 6) (h3 : levelsV xs = [])
  | gen (h1 : h = genT now own.id) (h2 : c = 1 ∨ c = 5) (h3 : okH h = true) (h4 : levelsV xs ≠ []) (h5 : own.null = false) (h6 : someV own 1 xs = [])
  | prop (h1 : h = atH (topL xs) (leastV xs (topL xs) - 1) own.id) (h2 : c = 2) (h3 : okH h = true) (h4 : 1 < (levelsV xs).length) (h5 : own.null = false) (h6 : someV own 1 xs = [])
  | refl (h1 : h = atH ⟨(topL xs).tau, (topL xs).oid, 1⟩ 0 own.id) (h2 : c = 3) (h3 : okH h = true) (h4 : levelsV xs = [topL xs]) (h5 : (topL xs).r = 0) (h6 : own.null = false) (h7 : someV own 1 xs = [])
  | detect (h1 : h = nullH own.id) (h2 : c = 4) (h3 : levelsV xs = [topL xs]) (h4 : (topL xs).oid = own.id) (h5 : own.null = false) (h6 : someV own 1 xs = [])
theorem topL_one {xs : List Vw} (h1 : levelsV xs ≠ []) (h2 : ¬ 1 < (levelsV xs).length) : levelsV xs = [topL xs] := by
  unfold topL
  match hq : levelsV xs with
  | [] => exact absurd hq h1
  | [a] => rfl
  | a :: b :: r => rw [hq] at h2; simp at h2
theorem case_is {own : Ht} {xs : List Vw} {now : Int} {lost : Bool} {h : Ht} {c e : Int} (hc : caseV own xs now lost = (h, c, e)) (he : e = 0) : okCase own xs now = true ∧ CaseIs own xs now lost h c := by
  unfold caseV at hc
  cases hok : okCase own xs now with
  | false => rw [hok] at hc; simp at hc; omega
  | true =>
    refine ⟨rfl, ?_⟩
    rw [hok] at hc
    simp only [Bool.not_true, Bool.false_eq_true, if_false] at hc
    by_cases h0 : ruleIs own xs lost 0 = true
    · rw [if_pos h0] at hc
      simp [ruleAt, caseAt, ruleSays, ruleNo] at hc
      exact .stay hc.1.symm hc.2.1.symm (by simpa [ruleIs] using h0)
    rw [if_neg h0] at hc
    have hn : own.null = false ∧ someV own 1 xs = [] := by simpa [ruleIs] using h0
    by_cases h1 : ruleIs own xs lost 1 = true
    · rw [if_pos h1] at hc
      simp [ruleAt, caseAt, ruleSays, ruleNo] at hc
      exact .alone hc.1.symm hc.2.1.symm (by simpa [ruleIs] using h1)
    rw [if_neg h1] at hc
    have hl : levelsV xs ≠ [] := by simpa [ruleIs] using h1
    by_cases h2 : ruleIs own xs lost 2 = true
    · rw [if_pos h2] at hc
      simp only [ruleAt, caseAt, ruleSays, ruleNo, genO, Prod.mk.injEq] at hc
      obtain ⟨g1, g2, g3⟩ := hc
      rw [he] at g3
      have hk := errA_ok g3
      rw [g3] at g1 g2
      simp only [if_true, hk] at g1 g2
      exact .gen g1.symm (.inl g2.symm) (g1 ▸ hk) hl hn.1 hn.2
    rw [if_neg h2] at hc
    by_cases h3 : ruleIs own xs lost 3 = true
    · rw [if_pos h3] at hc
      simp only [ruleAt, caseAt, ruleSays, ruleNo, atO, Prod.mk.injEq] at hc
      obtain ⟨g1, g2, g3⟩ := hc
      rw [he] at g3
      have hk := errA_ok g3
      rw [g3] at g1 g2
      simp only [if_true, hk] at g1 g2
      exact .prop g1.symm g2.symm (g1 ▸ hk) (by simpa [ruleIs] using h3) hn.1 hn.2
    rw [if_neg h3] at hc
    have ht := topL_one hl (by simpa [ruleIs] using h3)
    by_cases h4 : ruleIs own xs lost 4 = true
    · rw [if_pos h4] at hc
      simp only [ruleAt, caseAt, ruleSays, ruleNo, atO, Prod.mk.injEq] at hc
      obtain ⟨g1, g2, g3⟩ := hc
      rw [he] at g3
      have hk := errA_ok g3
      rw [g3] at g1 g2
      simp only [if_true, hk] at g1 g2
      exact .refl g1.symm g2.symm (g1 ▸ hk) ht (by simpa [ruleIs] using h4) hn.1 hn.2
    rw [if_neg h4] at hc
    by_cases h5 : ruleIs own xs lost 5 = true
    · rw [if_pos h5] at hc
      simp [ruleAt, caseAt, ruleSays, ruleNo] at hc
      exact .detect hc.1.symm hc.2.1.symm ht (by simpa [ruleIs] using h5) hn.1 hn.2
    rw [if_neg h5] at hc
    simp only [ruleAt, caseAt, ruleSays, ruleNo, genO, Prod.mk.injEq] at hc
    obtain ⟨g1, g2, g3⟩ := hc
    rw [he] at g3
    have hk := errA_ok g3
    rw [g3] at g1 g2
    simp only [if_true, hk] at g1 g2
    exact .gen g1.symm (.inr g2.symm) (g1 ▸ hk) hl hn.1 hn.2
theorem caseV_err {own : Ht} {xs : List Vw} {now : Int} {lost : Bool} {h : Ht} {c e : Int} (hc : caseV own xs now lost = (h, c, e)) (he : e ≠ 0) : c = 0 := by
  unfold caseV at hc
  have key : ∀ i, ruleAt own xs now i = (h, c, e) → c = 0 := fun i hi => by
    simp only [ruleAt, caseAt, Prod.mk.injEq] at hi
    obtain ⟨g1, g2, g3⟩ := hi
    rw [if_neg (by rw [g3]; exact he)] at g2
    exact g2.symm
  repeat (first | (split at hc; first | (simp at hc; omega) | exact key _ hc | skip) | exact key _ hc)
/-- P19.3: the levels -/
theorem level_mem {xs : List Vw} {v : Lv} : v ∈ levelsV xs ↔ ∃ x ∈ xs, toldH x.h = true ∧ lvH x.h = v := by
  rw [levelsV_mem]
  simp only [lvlsV, List.mem_map, List.mem_filter]
  constructor
  · rintro ⟨x, ⟨h1, h2⟩, h3⟩
    exact ⟨x, h1, h2, by rw [← lvlH_told h2]; exact h3⟩
  · rintro ⟨x, h1, h2, h3⟩
    exact ⟨x, ⟨h1, h2⟩, by rw [lvlH_told h2]; exact h3⟩
theorem topL_mem {xs : List Vw} (h : levelsV xs ≠ []) : topL xs ∈ levelsV xs := by
  unfold topL
  rw [List.getLastD_eq_getLast?, List.getLast?_eq_some_getLast h]
  exact List.getLast_mem h
theorem topL_max {xs : List Vw} {v : Lv} (h : v ∈ levelsV xs) : ltL v (topL xs) ∨ v = topL xs := by
  have hne : levelsV xs ≠ [] := List.ne_nil_of_mem h
  have hs := levelsV_SS xs
  have hd : levelsV xs = (levelsV xs).dropLast ++ [topL xs] := by
    unfold topL
    rw [List.getLastD_eq_getLast?, List.getLast?_eq_some_getLast hne]
    exact (List.dropLast_concat_getLast hne).symm
  rw [hd] at h hs
  rcases List.mem_append.1 h with h1 | h1
  · have := (List.pairwise_append.1 hs).2.2 v h1 (topL xs) (List.mem_singleton_self _)
    exact .inl this
  · exact .inr (List.mem_singleton.1 h1)
theorem someV_none {own : Ht} {xs : List Vw} (ho : toldH own = true) (h : someV own 1 xs = []) {x : Vw} (hx : x ∈ xs) (ht : toldH x.h = true) (hid : x.h.id ≠ own.id) : ltH own x.h := by
  rcases ltH.tri (a := own) (b := x.h) (fun e => hid e.symm) with h1 | h1
  · exact h1
  · exfalso
    have : x ∈ someV own 1 xs := by
      simp only [someV, List.mem_filter, decide_eq_true_eq]
      exact ⟨hx, (dir_down ho).2 ((lessH_iff _ _).2 ⟨ht, ho, h1⟩)⟩
    rw [h] at this; cases this
theorem two_levels {xs : List Vw} (h : 1 < (levelsV xs).length) : ∃ x ∈ xs, toldH x.h = true ∧ ltL (lvH x.h) (topL xs) := by
  have hs := levelsV_SS xs
  match hq : levelsV xs with
  | [] => rw [hq] at h; simp at h
  | [a] => rw [hq] at h; simp at h
  | a :: b :: r =>
    have hm : a ∈ levelsV xs := by rw [hq]; exact List.mem_cons_self ..
    obtain ⟨x, h1, h2, h3⟩ := level_mem.1 hm
    refine ⟨x, h1, h2, ?_⟩
    rw [h3]
    rcases topL_max hm with h4 | h4
    · exact h4
    · exfalso
      have htm : topL xs ∈ b :: r := by
        unfold topL
        rw [hq, List.getLastD_eq_getLast?, List.getLast?_cons_cons, List.getLast?_eq_some_getLast (by simp)]
        exact List.getLast_mem _
      rw [hq] at hs
      exact ltL.irr _ (h4 ▸ (List.pairwise_cons.1 hs).1 _ htm)
theorem okVs_id {xs : List Vw} (h : okVs xs = true) {x : Vw} (hx : x ∈ xs) : x.h.id = x.id ∧ toldH x.h = !x.h.null := by
  obtain ⟨i, hi⟩ := List.getElem?_of_mem hx
  have h1 := okVs_at h hi
  simp only [okV, decide_eq_true_eq] at h1
  exact ⟨h1.2.2.1, okVs_told h hi⟩
section
variable {own : Ht} {xs : List Vw} {now : Int} {lost : Bool} {h : Ht} {c e : Int}
theorem okCase_is (hok : okCase own xs now = true) : okH own = true ∧ okVs xs = true := by
  simp only [okCase, Bool.and_eq_true] at hok; exact hok.1
theorem rise_case (hc : caseV own xs now lost = (h, c, e)) (he : e = 0) (hid : ∀ x ∈ xs, x.id ≠ own.id) (h0 : c ≠ 0) (hn : h.null = false) (hl : lateV now own xs = true) : lessH own h = true := by
  obtain ⟨hok, hi⟩ := case_is hc he
  obtain ⟨ho, hv⟩ := okCase_is hok
  simp only [lateV, Bool.and_eq_true, decide_eq_true_eq] at hl
  have below : own.null = false → someV own 1 xs = [] → ∀ x ∈ xs, toldH x.h = true → toldH own = true ∧ ltH own x.h := fun h1 h2 x hx ht =>
    have h3 : toldH own = true := by simp [toldH, ho, h1]
    ⟨h3, someV_none h3 h2 hx ht (by rw [(okVs_id hv hx).1]; exact hid x hx)⟩
  cases hi with
  | stay h1 h2 _ => exact absurd h2 h0
  | alone h1 _ _ => rw [h1] at hn; simp [nullH] at hn
  | detect h1 _ _ _ _ _ => rw [h1] at hn; simp [nullH] at hn
  | gen h1 h2 h3 h4 h5 h6 =>
    rw [lessH_iff]
    refine ⟨by simp [toldH, ho, h5], by rw [h1] at h3 ⊢; exact told_gen h3, .inl ?_⟩
    rw [h1]; exact .inl hl.2
  | prop h1 h2 h3 h4 h5 h6 =>
    obtain ⟨x, hx, ht, hlt⟩ := two_levels h4
    obtain ⟨h7, h8⟩ := below h5 h6 x hx ht
    rw [lessH_iff]
    refine ⟨h7, by rw [h1] at h3 ⊢; exact told_at h3, .inl ?_⟩
    rw [h1]
    show ltL (lvH own) (topL xs)
    rcases h8.lv with h9 | h9
    · exact h9.trans hlt
    · rw [h9]; exact hlt
  | refl h1 h2 h3 h4 h5 h6 h7 =>
    obtain ⟨x, hx, ht, hlt⟩ := level_mem.1 (topL_mem (xs := xs) (by rw [h4]; simp))
    obtain ⟨h8, h9⟩ := below h6 h7 x hx ht
    rw [lessH_iff]
    refine ⟨h8, by rw [h1] at h3 ⊢; exact told_at h3, .inl ?_⟩
    rw [h1]
    show ltL (lvH own) ⟨(topL xs).tau, (topL xs).oid, 1⟩
    have hup : ltL (topL xs) ⟨(topL xs).tau, (topL xs).oid, 1⟩ := .inr ⟨rfl, .inr ⟨rfl, by rw [h5]; exact Int.zero_lt_one⟩⟩
    rcases h9.lv with h9 | h9
    · rw [hlt] at h9; exact h9.trans hup
    · rw [h9, hlt]; exact hup
theorem rise_adopt {me f : Int} {g : Ht} (ha : adoptR xs me = (g, f)) (hf : f = 0) : (lowV xs).isSome = true ∧ lessH ((lowV xs).getD z0V).h g = true ∧ g.id = me ∧ lvlH g = lvlH ((lowV xs).getD z0V).h ∧ g.delta = ((lowV xs).getD z0V).h.delta + 1 := by
  unfold adoptR at ha
  split at ha
  · simp at ha; omega
  · split at ha
    · simp at ha; omega
    · rename_i h1
      cases hq : lowV xs with
      | none => rw [hq] at h1; simp at h1
      | some x =>
        have ht := lowV_told hq
        simp only [Prod.mk.injEq] at ha
        obtain ⟨g1, g2⟩ := ha
        rw [hf] at g2
        have hk := errA_ok g2
        rw [hk] at g1
        simp only [if_true] at g1
        have hg : g = atH (lvH x.h) (x.h.delta + 1) me := by rw [← g1, adoptT, hq]; simp [lvlH_told ht]
        have htg : toldH g = true := by rw [← g1] at hg ⊢; exact told_at hk
        refine ⟨rfl, ?_, by rw [hg]; rfl, ?_, by rw [hg]; rfl⟩
        · rw [lessH_iff]
          refine ⟨by simpa using ht, htg, .inr ⟨by rw [hg]; rfl, .inl ?_⟩⟩
          rw [hg]; simp only [atH, Option.getD_some]; omega
        · rw [lvlH_told htg]
          simp only [Option.getD_some, lvlH_told ht]
          rw [hg]; rfl
end
end Go.Proofs.YtgdpjpmjcpieiaaGreat

/- What is down behind a case. No condition. -/
namespace Go.Proofs.YtgdpjpmjcpieiaaGreat
open Go
set_option linter.unusedVariables false
set_option linter.unusedSimpArgs false
theorem okVs_lt {xs : List Vw} (h : okVs xs = true) : ∀ (j i : Nat) (x y : Vw), i < j → xs[i]? = some x → xs[j]? = some y → x.id < y.id := by
  intro j
  induction j with
  | zero => intro i x y hij; omega
  | succ j ih =>
    intro i x y hij hx hy
    have hj : j + 1 < xs.length := by
      rcases Nat.lt_or_ge (j + 1) xs.length with h1 | h1
      · exact h1
      · rw [List.getElem?_eq_none h1] at hy; cases hy
    obtain ⟨z, hz⟩ := get_of_lt (xs := xs) (i := j) (by omega)
    have h1 := okVs_iff.1 h (j + 1) hj
    rw [rAt_eq hy (by simpa using hz)] at h1
    simp only [Bool.and_eq_true, Bool.or_eq_true, decide_eq_true_eq] at h1
    have hzy : z.id < y.id := h1.2.resolve_left (by omega)
    rcases Nat.lt_or_ge i j with h2 | h2
    · exact Int.lt_trans (ih i x z h2 hx hz) hzy
    · rw [show i = j by omega, hz] at hx
      injection hx with hx
      rw [← hx]; exact hzy
def getV (xs : List Vw) (id : Int) : Option Vw := xs.find? (fun v => decide (v.id = id))
theorem getV_mem {xs : List Vw} (h : okVs xs = true) {x : Vw} (hx : x ∈ xs) : getV xs x.id = some x := by
  unfold getV
  cases hq : xs.find? (fun v => decide (v.id = x.id)) with
  | none =>
    have := List.find?_eq_none.1 hq x hx
    simp at this
  | some y =>
    have hy := List.mem_of_find?_eq_some hq
    have hid : y.id = x.id := by simpa using List.find?_some hq
    obtain ⟨i, hi⟩ := List.getElem?_of_mem hx
    obtain ⟨j, hj⟩ := List.getElem?_of_mem hy
    rcases Nat.lt_trichotomy i j with h1 | h1 | h1
    · have := okVs_lt h j i x y h1 hi hj; omega
    · subst h1; rw [hi] at hj; exact hj.symm
    · have := okVs_lt h i j y x h1 hj hi; omega
def cntV (xs : List Vw) : Nat := (xs.filter (fun x => !x.h.null)).length
theorem two_filters {α : Type} {p q r : α → Bool} : ∀ {l : List α}, (∀ x ∈ l, p x = (q x || r x) ∧ (q x && r x) = false) → (l.filter q).length + (l.filter r).length = (l.filter p).length
  | [], _ => rfl
  | x :: l, h => by
    have ih := two_filters (l := l) fun y hy => h y (List.mem_cons_of_mem _ hy)
    obtain ⟨h1, h2⟩ := h x (List.mem_cons_self ..)
    rw [List.filter_cons, List.filter_cons, List.filter_cons, h1]
    cases hq : q x <;> cases hr : r x <;> simp_all <;> omega
theorem pos_of_mem {α : Type} {l : List α} {x : α} (h : x ∈ l) : 0 < l.length := List.length_pos_of_mem h
theorem least_le {xs : List Vw} {l : Lv} {x : Vw} (hx : x ∈ xs) (ht : toldH x.h = true) (hl : lvlH x.h = l) : leastV xs l ≤ x.h.delta := by
  have key : ∀ (xs : List Vw) (n : Int), xs.foldl (leastStep l) n ≤ n ∧ (x ∈ xs → xs.foldl (leastStep l) n ≤ x.h.delta) := by
    intro xs
    induction xs with
    | nil => exact fun n => ⟨Int.le_refl _, fun h => by cases h⟩
    | cons y r ih =>
      intro n
      rw [List.foldl_cons]
      obtain ⟨h1, h2⟩ := ih (leastStep l n y)
      have h3 : leastStep l n y ≤ n := by
        unfold leastStep
        split
        · rename_i h; simp only [Bool.and_eq_true, decide_eq_true_eq] at h; omega
        · exact Int.le_refl _
      refine ⟨Int.le_trans h1 h3, fun h => ?_⟩
      rcases List.mem_cons.1 h with rfl | h
      · refine Int.le_trans h1 ?_
        unfold leastStep
        rw [ht, hl]
        simp only [decide_true, Bool.and_true, Bool.true_and, decide_eq_true_eq]
        split <;> omega
      · exact h2 h
  exact (key xs _).2 hx
section
variable {own : Ht} {xs : List Vw} {now : Int} {lost : Bool} {h : Ht} {c : Int}
theorem all_down (hv : okVs xs = true) (hh : toldH h = true) (ha : ∀ x ∈ xs, toldH x.h = true → ltH x.h h) (hne : levelsV xs ≠ []) : (someV h 1 xs).length = cntV xs ∧ 0 < cntV xs := by
  have e : someV h 1 xs = xs.filter (fun x => !x.h.null) := by
    unfold someV
    refine List.filter_congr fun x hx => ?_
    rw [← (okVs_id hv hx).2]
    cases ht : toldH x.h with
    | false => simp [dirH, ht]
    | true => exact decide_eq_true ((dir_down hh).2 ((lessH_iff _ _).2 ⟨ht, hh, ha x hx ht⟩))
  refine ⟨by rw [e]; rfl, ?_⟩
  obtain ⟨x, hx, ht, _⟩ := level_mem.1 (topL_mem hne)
  refine pos_of_mem (x := x) (List.mem_filter.2 ⟨hx, ?_⟩)
  rw [← (okVs_id hv hx).2]; exact ht
theorem down_gen (hv : okVs xs = true) (hi : CaseIs own xs now lost h c) (hc : c = 1 ∨ c = 5) (hl : lateV now own xs = true) : (someV h 1 xs).length = cntV xs ∧ 0 < cntV xs := by
  cases hi with
  | gen h1 h2 h3 h4 h5 h6 =>
    refine all_down hv (by rw [h1] at h3 ⊢; exact told_gen h3) (fun x hx ht => .inl (.inl ?_)) h4
    simp only [lateV, Bool.and_eq_true, List.all_eq_true, decide_eq_true_eq] at hl
    rw [h1]; exact hl.1 x hx
  | _ => omega
theorem down_refl (hv : okVs xs = true) (hi : CaseIs own xs now lost h c) (hc : c = 3) : (someV h 1 xs).length = cntV xs ∧ 0 < cntV xs := by
  cases hi with
  | refl h1 h2 h3 h4 h5 h6 h7 =>
    refine all_down hv (by rw [h1] at h3 ⊢; exact told_at h3) (fun x hx ht => .inl ?_) (by rw [h4]; simp)
    have hm : lvH x.h ∈ levelsV xs := level_mem.2 ⟨x, hx, ht, rfl⟩
    rw [h4, List.mem_singleton] at hm
    rw [hm, h1]
    exact .inr ⟨rfl, .inr ⟨rfl, by rw [h5]; exact Int.zero_lt_one⟩⟩
  | _ => omega
theorem down_prop (hv : okVs xs = true) (hi : CaseIs own xs now lost h c) (hc : c = 2) :
    (∀ x ∈ someV h 2 xs, lvlH x.h = topL xs) ∧ 0 < (someV h 1 xs).length ∧ 0 < (someV h 2 xs).length ∧ (someV h 1 xs).length + (someV h 2 xs).length = cntV xs ∧ 0 < (levelsV xs).length := by
  cases hi with
  | prop h1 h2 h3 h4 h5 h6 =>
    have hh : toldH h = true := by rw [h1] at h3 ⊢; exact told_at h3
    have hlv : lvH h = topL xs := by rw [h1]; rfl
    have lo : ∀ x ∈ xs, toldH x.h = true → ltL (lvH x.h) (topL xs) → dirH h x.h = 1 := fun x hx ht hlt => (dir_down hh).2 ((lessH_iff _ _).2 ⟨ht, hh, .inl (by rw [hlv]; exact hlt)⟩)
    have hi' : ∀ x ∈ xs, toldH x.h = true → lvH x.h = topL xs → dirH h x.h = 2 := fun x hx ht he => (dir_up hh).2 ((lessH_iff _ _).2 ⟨hh, ht, .inr ⟨by rw [hlv, he], .inl (by
      have := least_le hx ht ((lvlH_told ht).trans he)
      rw [h1]
      show leastV xs (topL xs) - 1 < x.h.delta
      omega)⟩⟩)
    have each : ∀ x ∈ xs, toldH x.h = true → (ltL (lvH x.h) (topL xs) ∨ lvH x.h = topL xs) := fun x hx ht => topL_max (level_mem.2 ⟨x, hx, ht, rfl⟩)
    have hne : levelsV xs ≠ [] := by intro e; rw [e] at h4; simp at h4
    refine ⟨fun x hx => ?_, ?_, ?_, ?_, by omega⟩
    · simp only [someV, List.mem_filter, decide_eq_true_eq] at hx
      have ht : toldH x.h = true := by
        cases hq : toldH x.h with
        | true => rfl
        | false => rw [dirH, hq] at hx; simp at hx
      rw [lvlH_told ht]
      rcases each x hx.1 ht with h7 | h7
      · rw [lo x hx.1 ht h7] at hx; omega
      · exact h7
    · obtain ⟨x, hx, ht, hlt⟩ := two_levels h4
      exact pos_of_mem (x := x) (List.mem_filter.2 ⟨hx, decide_eq_true (lo x hx ht hlt)⟩)
    · obtain ⟨x, hx, ht, he⟩ := level_mem.1 (topL_mem hne)
      exact pos_of_mem (x := x) (List.mem_filter.2 ⟨hx, decide_eq_true (hi' x hx ht he)⟩)
    · refine two_filters fun x hx => ?_
      rw [← (okVs_id hv hx).2]
      cases ht : toldH x.h with
      | false => simp [dirH, ht]
      | true =>
        rcases each x hx ht with h7 | h7
        · rw [lo x hx ht h7]; decide
        · rw [hi' x hx ht h7]; decide
  | _ => omega
theorem down_null (hv : okVs xs = true) (hi : CaseIs own xs now lost h c) (hc : c = 4 ∨ c = 6) : h = nullH own.id ∧ (c = 4 ↔ 0 < cntV xs) := by
  have hcnt : levelsV xs ≠ [] ↔ 0 < cntV xs := by
    constructor
    · intro hne
      obtain ⟨x, hx, ht, _⟩ := level_mem.1 (topL_mem hne)
      refine pos_of_mem (x := x) (List.mem_filter.2 ⟨hx, ?_⟩)
      rw [← (okVs_id hv hx).2]; exact ht
    · intro hp hne
      obtain ⟨x, hx⟩ := List.exists_mem_of_length_pos hp
      obtain ⟨h1, h2⟩ := List.mem_filter.1 hx
      have : lvH x.h ∈ levelsV xs := level_mem.2 ⟨x, h1, by rw [(okVs_id hv h1).2]; exact h2, rfl⟩
      rw [hne] at this; cases this
  cases hi with
  | alone h1 h2 h3 =>
    refine ⟨h1, ⟨fun h => by omega, fun hp => ?_⟩⟩
    exact absurd h3 (hcnt.2 hp)
  | detect h1 h2 h3 h4 h5 h6 => exact ⟨h1, ⟨fun _ => hcnt.1 (by rw [h3]; simp), fun _ => h2⟩⟩
  | _ => omega
theorem case_range (hi : CaseIs own xs now lost h c) : c = 0 ∨ c = 1 ∨ c = 2 ∨ c = 3 ∨ c = 4 ∨ c = 5 ∨ c = 6 := by cases hi <;> omega
theorem case_stay (hi : CaseIs own xs now lost h c) (hc : c = 0) : h = own ∧ (own.null = true ∨ 0 < (someV own 1 xs).length) := by
  cases hi with
  | stay h1 h2 h3 => exact ⟨h1, h3⟩
  | _ => omega
end
end Go.Proofs.YtgdpjpmjcpieiaaGreat

/- Views: one's height, by its number. No condition. -/
namespace Go.Proofs.YtgdpjpmjcpieiaaGreat
open Go
set_option linter.unusedVariables false
set_option linter.unusedSimpArgs false
set_option maxRecDepth 100000
set_option maxHeartbeats 0
theorem getV_at {xs : List Vw} {id : Int} {i : Nat} {x : Vw} (hx : xs[i]? = some x) (hid : x.id = id) (hpre : ∀ j y, j < i → xs[j]? = some y → y.id ≠ id) : getV xs id = some x := by
  unfold getV
  have h1 : i < xs.length := by
    rcases Nat.lt_or_ge i xs.length with h | h
    · exact h
    · rw [List.getElem?_eq_none h] at hx; cases hx
  rw [List.getElem?_eq_getElem h1] at hx
  injection hx with hx
  rw [List.find?_eq_some_iff_getElem]
  refine ⟨by simpa using hid, i, h1, hx, fun j hj => ?_⟩
  have := hpre j _ hj (List.getElem?_eq_getElem (by omega))
  simpa using this
theorem getV_no {xs : List Vw} {id : Int} (hpre : ∀ j y, j < xs.length → xs[j]? = some y → y.id ≠ id) : getV xs id = none := by
  unfold getV
  rw [List.find?_eq_none]
  intro x hx
  obtain ⟨i, hi⟩ := List.getElem?_of_mem hx
  have h1 : i < xs.length := by
    rcases Nat.lt_or_ge i xs.length with h | h
    · exact h
    · rw [List.getElem?_eq_none h] at hi; cases hi
  simpa using hpre i x h1 hi
def getH (xs : List Vw) (id : Int) : Ht := ((getV xs id).map (·.h)).getD z0H
theorem get_spec {g : Gl} {D : Dict} {M : MList} {a : Value} {xs : List Vw} (id : Int) (ha : Vws D a xs) :
    Gives Tryz.prog g 21 [a, .int .i64 id] D M (.tuple #[.agg (Ht.cells (getH xs id)).toArray, .bool (getV xs id).isSome]) := by
  have hla := ha.form.choose_spec.choose_spec.2.2
  refine Gives.enter Tryz.func21 rfl Tryz.ntmps21 ?_; refine R.sq ?_; refine R.rg ?_; refine R.alA Tryz.zeroValue23 (fun b4 hb4 => ?_); refine R.as ?_; refine R.nl ?_; refine R.hs (e' := [(0, _), (1, _), (4, _)]) ?_; refine R.sq ?_; refine R.sq ?_; refine R.rg ?_; refine R.mv ?_; refine R.ll (ha) Tryz.runUnderlying24 ?_; refine R.mv ?_; refine R.nl ?_; refine R.hs (e' := [(1, _), (4, _), (8, _), (9, _), (10, _)]) ?_; refine Run.block ?_; refine Run.loop (ι := Nat) [(1, _), (4, _), (8, _), (9, _)] (fun i => [(10, .int .i64 (i : Int))]) (fun _ => D) (fun _ => (b4, .cells (Ht.cells z0H).toArray 23 (0, 0)) :: M) (fun i => i ≤ xs.length ∧ ∀ j y, j < i → xs[j]? = some y → y.id ≠ id) (fun i => xs.length - i) (0) (by repeat (first | exact trivial | refine ⟨rfl, ?_⟩)) ?h0 (by repeat (first | exact trivial | refine ⟨rfl, ?_⟩)) (fun w hs => hs) ?_
  case h0 => exact ⟨Nat.zero_le _, fun j x hj => by omega⟩
  rintro i ⟨hi, hpre⟩; refine R.sq ?_; refine R.rg ?_; refine R.cm ?_; refine R.nl ?_; refine R.hs (e' := [(1, _), (4, _), (8, _), (9, _), (10, _), (11, _)]) ?_; refine R.sq ?_; refine R.cd (fun zc2 => ?_) (fun zc2 => ?_)
  ·
   have hlt : i < xs.length := by simp at zc2; omega
   obtain ⟨x, hgx⟩ := get_of_lt hlt
   obtain ⟨b1, o1, hI1, hc1⟩ := ha.at Vw.len hgx
   refine Run.skip ?_; refine R.sq ?_; refine Run.block ?_; refine R.sq ?_; refine R.rg ?_; refine R.ix (hI1) Tryz.runUnderlying24 Tryz.sizeOf72 ?_; refine R.lAD 7 Tryz.isAgg72 Tryz.sizeOf72 ?_; refine R.alA Tryz.zeroValue72 (fun zb3 hzb3 => ?_); refine R.st Tryz.sizeOf72 ?_; refine R.nl ?_; refine R.hs (e' := [(1, _), (4, _), (7, _), (8, _), (9, _), (10, _)]) ?_; refine R.sq ?_; refine R.rg ?_; refine R.fa Tryz.runUnderlying72 Tryz.sizeOf3 ?_; refine R.ld Tryz.isAgg3 ?_; refine R.mv ?_; refine R.cm ?_; refine R.nl ?_; refine R.hs (e' := [(1, _), (4, _), (7, _), (8, _), (9, _), (10, _), (17, _)]) ?_; refine R.cd (fun zc4 => ?_) (fun zc4 => ?_)
   ·
    have hz : getV xs id = some x := getV_at hgx (by simpa using zc4) hpre
    refine R.sq ?_; refine R.rg ?_; refine R.fa Tryz.runUnderlying72 Tryz.sizeOf23 ?_; refine R.lA 6 Tryz.isAgg23 Tryz.sizeOf23 ?_; refine R.st Tryz.sizeOf23 ?_; refine R.as ?_; refine R.nl ?_; refine R.hs (e' := [(4, _), (5, _)]) ?_; refine R.rt (RV.a Tryz.isAgg23 Tryz.sizeOf23 (RV.t .nil)) 2 ?_
    simp only [getH, hz]; rfl
   ·
    have hr : x.id ≠ id := by simpa using zc4
    refine Run.skip ?_; refine Run.endBlock ?_; refine R.rg ?_; refine R.ad ?_; refine R.mv ?_; refine R.nl ?_; refine R.hs (e' := [(1, _), (4, _), (8, _), (9, _), (10, _)]) ?_; exact Run.again (i + 1) ⟨by omega, fun j y hj hy => by rcases Nat.lt_or_ge j i with h | h; exact hpre j y h hy; rw [show j = i by omega, hgx] at hy; injection hy with hy; rw [← hy]; exact hr⟩ (by omega) ⟨rfl, by repeat (first | exact trivial | refine ⟨rfl, ?_⟩)⟩ (fun w hs => hs.drop 1)
  ·
   have hz : getV xs id = none := getV_no fun j x hj => hpre j x (by simp at zc2; omega)
   refine Run.exit rfl ?_; refine R.sq ?_; refine R.rg ?_; refine R.bd Tryz.zeroValue23 places23 ?_; refine R.st Tryz.sizeOf23 ?_; refine R.as ?_; refine R.nl ?_; refine R.hs (e' := [(4, _), (5, _)]) ?_; refine R.rt (RV.a Tryz.isAgg23 Tryz.sizeOf23 (RV.t .nil)) 1 ?_
   simp only [getH, hz]; rfl
end Go.Proofs.YtgdpjpmjcpieiaaGreat

/- Rows of one's own: cut, cleared. No condition. -/
namespace Go.Proofs.YtgdpjpmjcpieiaaGreat
open Go
set_option linter.unusedVariables false
set_option linter.unusedSimpArgs false
section
variable {P : Program} {n : Nat} {Q : Exit → Act → World → Prop} {g : Gl} {k : List It} {e : Env} {D : Dict} {M : MList}
  {all : Array Oper} {rest : List Oper} {dst : Option Nat} {ty : TypeId} {pos : String} {af : Array Edge}
/-- s[i:], i below the room -/
theorem R.cutLo {t el : TypeId} {x lo : Operand} {b o0 l c sz : Nat} {kd : IntKind} {j : Int} (i : Nat) (hu : ∀ w, (underlying t).run P w = .ok (.slice el) w) (hS : ∀ w, (sizeOf el).run P w = .ok sz w)
    (h : Run P n Q g (.ops all rest :: k) (e.put dst (.slice (some ⟨b, o0 + i * sz, none⟩) (l - i) (c - i))) D M)
    (hx : e.ev x = some (.slice (some ⟨b, o0, none⟩) l c) := by rfl) (hi : e.ev lo = some (.int kd j) := by rfl) (hj : j = (i : Int) := by first | rfl | omega | (dsimp only; omega) | (simp at *; omega)) (h1 : i ≤ l := by omega) (h2 : i < c := by omega) (hd : dstOk n dst = true := by rfl) :
    Run P n Q g (.ops all (⟨dst, .slice t x (some lo) none none, ty, pos, af, none⟩ :: rest) :: k) e D M := by
  subst hj
  refine Run.sliceLo hu hS hx hi h1 hd ?_
  rw [if_neg (by omega)]
  simpa [add_plain] using h
/-- s[:i] -/
theorem R.cutHi {t el : TypeId} {x hi : Operand} {A : Option Addr} {l c sz : Nat} {kd : IntKind} {j : Int} (i : Nat) (hu : ∀ w, (underlying t).run P w = .ok (.slice el) w) (hS : ∀ w, (sizeOf el).run P w = .ok sz w)
    (h : Run P n Q g (.ops all rest :: k) (e.put dst (.slice A i c)) D M)
    (hx : e.ev x = some (.slice A l c) := by rfl) (hi' : e.ev hi = some (.int kd j) := by rfl) (hj : j = (i : Int) := by first | rfl | omega | (dsimp only; omega) | (simp at *; omega)) (h1 : i ≤ c := by omega) (hd : dstOk n dst = true := by rfl) :
    Run P n Q g (.ops all (⟨dst, .slice t x none (some hi) none, ty, pos, af, none⟩ :: rest) :: k) e D M := by
  subst hj
  exact Run.sliceHi hu hS hx hi' h1 hd h
theorem one_reps {zc : List Value} (h : ∀ u ∈ zc, u.oneCell' = true) (m : Nat) : ∀ u ∈ reps m zc, u.oneCell' = true := by
  intro u hu
  simp only [reps, List.mem_flatten, List.mem_replicate] at hu
  obtain ⟨l, ⟨_, rfl⟩, hl⟩ := hu
  exact h u hl
/-- clear(s[i:]) of a row of one's own: what is ahead of i stays -/
theorem R.clr {α : Type} {sz : Nat} {cells : α → List Value} {T t : TypeId} {xs : List α} {q R : MList} {x : Operand} {b l c c' off : Nat} {z : Value} {zc : List Value} (i : Nat) (ho : OL sz cells T (.slice (some ⟨b, 0, none⟩) l c) xs q) (hc : ∀ x, (cells x).length = sz)
    (hu : ∀ w, (underlying t).run P w = .ok (.slice T) w) (hz : ∀ w, (zeroValue T).run P w = .ok z w) (hzc : zc.length = sz) (h0 : 0 < sz) (h1 : zc.all (·.oneCell') = true) (hi : i < xs.length) (hoff : off = i * sz)
    (h : ∀ q', OL sz cells T (.slice (some ⟨b, 0, none⟩) i c) (xs.take i) q' → Run P n Q g (.ops all rest :: k) (e.put dst (.tuple #[])) D (q' ++ R))
    (hx : e.ev x = some (.slice (some ⟨b, off, none⟩) (xs.length - i) c') := by rfl) (hzs : z.cells = zc.toArray := by rfl) (hd : dstOk n dst = true := by rfl) :
    Run P n Q g (.ops all (⟨dst, .call { callee := .builtin .clear, args := #[x], argTypes := #[t] }, ty, pos, af, none⟩ :: rest) :: k) e D (q ++ R) := by
  subst hoff
  rcases ho.2 with ⟨h1', _, _⟩ | ⟨b', cap, cur, e1, h2, h3, h4, h5, h6⟩
  · cases h1'
  · injection e1 with e1 e2 e3
    injection e1 with e1
    injection e1 with e4 _
    subst e4; subst e3; subst h2
    have hm : xs.length - i ≠ 0 := by omega
    have hmz : (xs.length - i) * zc.length ≠ 0 := by rw [hzc]; exact Nat.mul_ne_zero hm (by omega)
    have hle : xs.length * sz ≤ c * sz := Nat.mul_le_mul_right sz h3
    have hsum : i * sz + (xs.length - i) * sz = xs.length * sz := by rw [← Nat.add_mul]; congr 1; omega
    have hrl : (reps (xs.length - i) zc).length = (xs.length - i) * sz := by simp [reps, hzc]
    let cur' : Array Value := (cur.toList.take (i * sz + 0) ++ reps (xs.length - i) zc ++ cur.toList.drop (i * sz + 0 + (reps (xs.length - i) zc).length)).toArray
    refine Run.eff (fun v' D' M' => v' = .tuple #[] ∧ D' = D ∧ M' = [(b, Obj.cells cur' T (0, 0))] ++ R) hd (fun a he w hs => ?_) (fun v' D' M' ⟨g1, g2, g3⟩ => by
      subst g1; subst g2; subst g3
      refine h _ ⟨by rw [flat_len hc], .inr ⟨b, c, cur', by simp [Nat.min_eq_left (Nat.le_of_lt hi)], rfl, by simp; omega, h4, ?_, ?_⟩⟩
      · simp only [cur', List.size_toArray, List.length_append, List.length_take, List.length_drop, Array.length_toList, h5, hrl]; omega
      · have hl1 : (cur.toList.take (i * sz)).length = i * sz := by rw [List.length_take, Array.length_toList, h5]; omega
        have hl2 : (xs.take i).length = i := by rw [List.length_take]; omega
        simp only [cur', hl2, Nat.add_zero, List.append_assoc]
        rw [List.take_append, hl1, Nat.sub_self, List.take_zero, List.append_nil, List.take_take, Nat.min_self]
        have h7 : (xs.take i).flatMap cells = (xs.flatMap cells).take (i * sz) := by
          conv => rhs; rw [← List.take_append_drop i xs, List.flatMap_append]
          have := flat_len hc (xs.take i)
          rw [hl2] at this
          rw [List.take_left' this]
        rw [h7, ← h6, List.take_take, Nat.min_eq_left (by omega)])
    have hb := hs.mt (b, Obj.cells cur T (0, 0)) (by simp)
    have hst := run_storeCells_at P b (i * sz) T (reps (xs.length - i) zc) 0 cur w hb (by rw [hrl, h5]; omega) (one_reps (fun u hu => List.all_eq_true.1 h1 u hu) _)
    refine ⟨.tuple #[], w.setRow b cur', D, _, ?_, hs.mset (.here ..) rfl rfl rfl (Nat.le_refl _) (setRow_heap w b cur cur' T (0, 0) hb) (fun c hc => setRow_other _ _ _ hc), rfl, rfl, rfl⟩
    have hzr : Builtin.zeroCells z.cells (xs.length - i) = (reps (xs.length - i) zc).toArray := reps_eq (xs.length - i) z.cells zc hzs hmz ▸ (by unfold Builtin.zeroCells; rw [hzs]; simp)
    have hcl : (Builtin.clear_ #[t] ty #[.slice (some ⟨b, i * sz, none⟩) (xs.length - i) c']).run P w = .ok (.tuple #[]) (w.setRow b cur') := by
      obtain ⟨m, hm'⟩ : ∃ m, xs.length - i = m + 1 := ⟨xs.length - i - 1, by omega⟩
      rw [hm'] at hzr hst ⊢
      simp [Builtin.clear_, Sem.run_bind, hu, Result.andThen_ok, hz, hzr, hst, Sem.run_pure, cur', hm']
    simp [execOp, resolve, he.ev hx, Sem.run_bind, Sem.run_pure, invoke, builtin, hcl, Result.andThen_ok]
end
end Go.Proofs.YtgdpjpmjcpieiaaGreat

/- Rows of one's own: copied into, appended to in place, grown by zeros; what is called and has no text. No condition. -/
namespace Go.Proofs.YtgdpjpmjcpieiaaGreat
open Go
set_option linter.unusedVariables false
set_option linter.unusedSimpArgs false
section
variable {P : Program} {n : Nat} {Q : Exit → Act → World → Prop} {g : Gl} {k : List It} {e : Env} {D : Dict} {M : MList}
  {all : Array Oper} {rest : List Oper} {dst : Option Nat} {ty : TypeId} {pos : String} {af : Array Edge}
/-- a function without a text, that the model knows -/
theorem R.cx {args : List Operand} {tys : Array TypeId} {f : FuncId} {vs : List Value} {v : Value} (hf : ∀ w, St g w D M → (callFunc f vs.toArray).run P w = .ok (.value v) w) (h : Run P n Q g (.ops all rest :: k) (e.put dst v) D M)
    (ha : e.evs args = some vs := by rfl) (hd : dstOk n dst = true := by rfl) : Run P n Q g (.ops all (⟨dst, .call { callee := .value (.func f), args := args.toArray, argTypes := tys }, ty, pos, af, none⟩ :: rest) :: k) e D M :=
  Run.val _ hd (fun a he w hs => by
    have h1 := hf w hs
    simp only [execOp, resolve, List.map_toArray, he.evs ha, Act.eval, Deferred.ofValue, Sem.run_bind, Sem.run_pure, Result.andThen_ok, invoke]
    simpa using h1) h
theorem overlaps_apart {tS tR T : TypeId} {sz b b' o o' la ca lb cb : Nat} {cur cur' : Array Value} {T' : TypeId} {w : World} (ht : P.underlying tS = some (.slice T)) (hz : ∀ w, (sizeOf T).run P w = .ok sz w) (hne : b ≠ b')
    (h1 : w.heap[b]? = some (.cells cur T' (0, 0))) (h2 : w.heap[b']? = some (.cells cur' T' (0, 0))) (h0 : cur'.size ≠ 0) :
    (Extern.SlicesOverlaps.overlaps #[tS, tS] #[tR] #[.slice (some ⟨b, o, none⟩) la ca, .slice (some ⟨b', o', none⟩) lb cb]).run P w = .ok (.bool false) w :=
  Lib.run_overlaps_apart w tS tR T ht sz hz ⟨b, o, none⟩ ⟨b', o', none⟩ la ca lb cb hne T' T' cur.size cur'.size (by simp [World.shape?, h1]) (by simp [World.shape?, h2]) h0 (by simp [World.frozen?, h1]) (by simp [World.frozen?, h1])
theorem R.cap {t : TypeId} {x : Operand} {A : Option Addr} {l c : Nat} {el : TypeId} (hu : ∀ w, (underlying t).run P w = .ok (.slice el) w) (h : Run P n Q g (.ops all rest :: k) (e.put dst (.int .i64 c)) D M) (hx : e.ev x = some (.slice A l c) := by rfl) (hd : dstOk n dst = true := by rfl) :
    Run P n Q g (.ops all (⟨dst, .call { callee := .builtin .cap, args := #[x], argTypes := #[t] }, ty, pos, af, none⟩ :: rest) :: k) e D M := Run.cap hu hx hd h
/-- s[i:j] -/
theorem R.cut {t el : TypeId} {x lo up : Operand} {b o0 l c sz : Nat} {kd kd' : IntKind} {ji jj : Int} (i j : Nat) (hu : ∀ w, (underlying t).run P w = .ok (.slice el) w) (hS : ∀ w, (sizeOf el).run P w = .ok sz w)
    (h : Run P n Q g (.ops all rest :: k) (e.put dst (.slice (some ⟨b, o0 + i * sz, none⟩) (j - i) (c - i))) D M)
    (hx : e.ev x = some (.slice (some ⟨b, o0, none⟩) l c) := by rfl) (hi : e.ev lo = some (.int kd ji) := by rfl) (hj : e.ev up = some (.int kd' jj) := by rfl) (h1 : ji = (i : Int) := by first | rfl | omega) (h2 : jj = (j : Int) := by first | rfl | omega) (h3 : i ≤ j := by omega) (h4 : j ≤ c := by omega) (h5 : i < c := by omega) (hd : dstOk n dst = true := by rfl) :
    Run P n Q g (.ops all (⟨dst, .slice t x (some lo) (some up) none, ty, pos, af, none⟩ :: rest) :: k) e D M :=
  Run.val _ hd (fun a he w hs => by
    subst h1; subst h2
    have h6 : ¬ (c = i) := by omega
    simp [execOp, Instr.sliceAt, Instr.slice, Instr.sliceBounds, Instr.sliceBound, Sem.run_bind, he.ev hx, he.ev hi, he.ev hj, asIntOf, Sem.run_pure, hu, h3, h4, hS, Result.andThen_ok, h6, add_plain]) h
/-- s[i:j:m], looked at for its bounds -/
theorem R.cut3 {t el : TypeId} {x lo up mx : Operand} {A : Option Addr} {l c sz : Nat} {kd kd' kd2 : IntKind} {ji jj jm : Int} (i j m : Nat) (hu : ∀ w, (underlying t).run P w = .ok (.slice el) w) (hS : ∀ w, (sizeOf el).run P w = .ok sz w)
    (h : ∀ v, Run P n Q g (.ops all rest :: k) (e.put dst v) D M)
    (hx : e.ev x = some (.slice A l c) := by rfl) (hi : e.ev lo = some (.int kd ji) := by rfl) (hj : e.ev up = some (.int kd' jj) := by rfl) (hm : e.ev mx = some (.int kd2 jm) := by rfl) (h1 : ji = (i : Int) := by first | rfl | omega) (h2 : jj = (j : Int) := by first | rfl | omega) (h0 : jm = (m : Int) := by first | rfl | omega) (h3 : i ≤ j := by omega) (h4 : j ≤ m := by omega) (h5 : m ≤ c := by omega) (hd : dstOk n dst = true := by rfl) :
    Run P n Q g (.ops all (⟨dst, .slice t x (some lo) (some up) (some mx), ty, pos, af, none⟩ :: rest) :: k) e D M :=
  Run.val (.slice (if m = i then A else A.map (·.add (i * sz))) (j - i) (m - i)) hd (fun a he w hs => by
    subst h1; subst h2; subst h0
    simp [execOp, Instr.sliceAt, Instr.slice, Instr.sliceBounds, Instr.sliceBound, Sem.run_bind, he.ev hx, he.ev hi, he.ev hj, he.ev hm, asIntOf, Sem.run_pure, hu, h3, h4, h5, hS, Result.andThen_ok]) (h _)
/-- T{} -/
theorem R.bs0 {t el : TypeId} (hu : ∀ w, (underlying t).run P w = .ok (.slice el) w) {sz : Nat} (hS : ∀ w, (sizeOf el).run P w = .ok sz w) (h : ∀ b, D b = none → Run P n Q g (.ops all rest :: k) (e.put dst (.slice (some ⟨b, 0, none⟩) 0 0)) D ((b, .cells ([] : List Value).toArray el (0, 0)) :: M)) (hd : dstOk n dst = true := by rfl) :
    Run P n Q g (.ops all (⟨dst, .buildSlice t 0 #[], ty, pos, af, none⟩ :: rest) :: k) e D M :=
  Run.new _ hd (fun b => .slice (some ⟨b, 0, none⟩) 0 0) (fun a he w hs => by
    have hr0 : Array.range 0 = #[] := rfl
    simp [execOp, Instr.buildSlice, Sem.run_bind, hu, hS, Result.andThen_ok, Instr.fill, newRow, newObj, Sem.run_pure, Sem.run, hr0]) h
theorem OL.lit0 {α : Type} {sz : Nat} {cells : α → List Value} {T : TypeId} {b : Nat} : OL sz cells T (.slice (some ⟨b, 0, none⟩) 0 0) ([] : List α) [(b, .cells ([] : List Value).toArray T (0, 0))] :=
  ⟨by simp, .inr ⟨b, 0, #[], rfl, rfl, Nat.le_refl _, by simp [maxLen], by simp, by simp⟩⟩
/-- what the row of one's own is -/
theorem OL.blk {α : Type} {sz : Nat} {cells : α → List Value} {T : TypeId} {v : Value} {xs : List α} {q : MList} (h : OL sz cells T v xs q) (hp : 0 < xs.length) : ∃ b c cur, v = .slice (some ⟨b, 0, none⟩) xs.length c ∧ q = [(b, .cells cur T (0, 0))] ∧ xs.length ≤ c ∧ c ≤ maxLen ∧ cur.size = c * sz ∧ cur.toList.take (xs.length * sz) = xs.flatMap cells := by
  rcases h.2 with ⟨h1, h2, _⟩ | ⟨b, cap, cur, h1, h2, h3, h4, h5, h6⟩
  · omega
  · exact ⟨b, cap, cur, h1, h2, h3, h4, h5, h6⟩
theorem take_flat {α : Type} {sz : Nat} {cells : α → List Value} (hc : ∀ x, (cells x).length = sz) (xs : List α) (i : Nat) : (xs.take i).flatMap cells = (xs.flatMap cells).take (i * sz) := by
  rcases Nat.lt_or_ge i xs.length with hi | hi
  · conv => rhs; rw [← List.take_append_drop i xs, List.flatMap_append]
    have := flat_len hc (xs.take i)
    rw [List.length_take, Nat.min_eq_left (by omega)] at this
    rw [List.take_left' this]
  · rw [List.take_of_length_le hi, List.take_of_length_le]
    rw [flat_len hc]; exact Nat.mul_le_mul_right _ hi
theorem drop_flat {α : Type} {sz : Nat} {cells : α → List Value} (hc : ∀ x, (cells x).length = sz) (xs : List α) (i : Nat) : (xs.drop i).flatMap cells = (xs.flatMap cells).drop (i * sz) := by
  rcases Nat.lt_or_ge i xs.length with hi | hi
  · conv => rhs; rw [← List.take_append_drop i xs, List.flatMap_append]
    have := flat_len hc (xs.take i)
    rw [List.length_take, Nat.min_eq_left (by omega)] at this
    rw [List.drop_left' this]
  · rw [List.drop_of_length_le hi, List.drop_of_length_le]
    · rfl
    · rw [flat_len hc]; exact Nat.mul_le_mul_right _ hi
/-- cells laid over a block: the row then -/
theorem OL.over {α : Type} {sz : Nat} {cells : α → List Value} {T : TypeId} (hc : ∀ x, (cells x).length = sz) {b l c : Nat} {cur : Array Value} {xs ys : List α} (i : Nat) (h1 : xs.length ≤ c) (h2 : c ≤ maxLen) (h3 : cur.size = c * sz) (h4 : cur.toList.take (xs.length * sz) = xs.flatMap cells) (hi : i ≤ xs.length) (hy : i + ys.length ≤ c)
    (hl : l = max xs.length (i + ys.length)) :
    OL sz cells T (.slice (some ⟨b, 0, none⟩) l c) (xs.take i ++ ys ++ xs.drop (i + ys.length)) [(b, .cells (cur.toList.take (i * sz) ++ ys.flatMap cells ++ cur.toList.drop (i * sz + (ys.flatMap cells).length)).toArray T (0, 0))] := by
  have hlen : (xs.take i ++ ys ++ xs.drop (i + ys.length)).length = l := by
    simp only [List.length_append, List.length_take, List.length_drop]; omega
  have hxs : xs.length * sz ≤ c * sz := Nat.mul_le_mul_right sz h1
  have hys : i * sz + ys.length * sz ≤ c * sz := by rw [← Nat.add_mul]; exact Nat.mul_le_mul_right sz hy
  have his : i * sz ≤ xs.length * sz := Nat.mul_le_mul_right sz hi
  have hyl := flat_len hc ys
  refine ⟨by rw [flat_len hc, hlen], .inr ⟨b, c, _, by rw [hlen], rfl, by rw [hlen]; omega, h2, ?_, ?_⟩⟩
  · simp only [List.size_toArray, List.length_append, List.length_take, List.length_drop, Array.length_toList, h3, hyl]
    omega
  · rw [hlen]
    simp only [List.flatMap_append]
    rw [take_flat hc, drop_flat hc, ← h4, List.take_take, Nat.min_eq_left his, hyl]
    have e1 : (cur.toList.take (i * sz)).length = i * sz := by rw [List.length_take, Array.length_toList, h3]; omega
    have e2 : ((cur.toList.take (i * sz)) ++ ys.flatMap cells).length = (i + ys.length) * sz := by rw [List.length_append, e1, hyl, Nat.add_mul]
    rw [List.take_append, e2]
    have hlz : (i + ys.length) * sz ≤ l * sz := Nat.mul_le_mul_right sz (by omega)
    rw [List.take_of_length_le (by rw [e2]; exact hlz)]
    congr 1
    rw [List.drop_take, Nat.add_mul]
    rcases Nat.lt_or_ge xs.length (i + ys.length) with h5 | h5
    · have : l = i + ys.length := by omega
      rw [this, Nat.add_mul, Nat.sub_self, List.take_zero]
      have : xs.length * sz ≤ i * sz + ys.length * sz := by rw [← Nat.add_mul]; exact Nat.mul_le_mul_right sz (by omega)
      rw [Nat.sub_eq_zero_of_le this, List.take_zero]
    · have : l = xs.length := by omega
      rw [this]
/-- copy into a row of one's own, also behind its end where there is room -/
theorem R.cpy {α : Type} {sz : Nat} {cells : α → List Value} {T t t' : TypeId} {xs : List α} {q R : MList} {x y : Operand} {b l l' c ld cd off bs os m cy : Nat} (ys : List α) (i : Nat) (hu : P.underlying t = some (.slice T)) (hi : (P.info? T).map (·.size) = some sz) (ho : OL sz cells T (.slice (some ⟨b, 0, none⟩) l c) xs q) (hc : ∀ x, (cells x).length = sz)
    (hcs : Cs D (q ++ R) bs os (ys.flatMap cells)) (hym : ys.length = min ld m) (h1 : ∀ x, ∀ u ∈ cells x, u.oneCell' = true) (hoff : off = 0 + i * sz) (hi0 : i ≤ xs.length) (hi1 : i + ld ≤ c) (hl' : l' = max xs.length (i + ys.length)) (h0 : 0 < xs.length)
    (h : ∀ q', OL sz cells T (.slice (some ⟨b, 0, none⟩) l' c) (xs.take i ++ ys ++ xs.drop (i + ys.length)) q' → Run P n Q g (.ops all rest :: k) (e.put dst (.int .i64 (ys.length : Nat))) D (q' ++ R))
    (hx : e.ev x = some (.slice (some ⟨b, off, none⟩) ld cd) := by rfl) (hy : e.ev y = some (.slice (some ⟨bs, os, none⟩) m cy) := by rfl) (hd : dstOk n dst = true := by rfl) :
    Run P n Q g (.ops all (⟨dst, .call { callee := .builtin .copy, args := #[x, y], argTypes := #[t, t'] }, ty, pos, af, none⟩ :: rest) :: k) e D (q ++ R) := by
  subst hoff
  obtain ⟨b', c', cur, e1, h2, h3, h4, h5, h6⟩ := ho.blk h0
  injection e1 with e1 e2 e3
  injection e1 with e1
  injection e1 with e4 _
  subst e4; subst e3; subst h2
  have hov := OL.over (T := T) (b := b) (l := l') hc (ys := ys) i h3 h4 h5 h6 hi0 (by omega) hl'
  let cur' : Array Value := (cur.toList.take (i * sz) ++ ys.flatMap cells ++ cur.toList.drop (i * sz + (ys.flatMap cells).length)).toArray
  refine Run.eff (fun v' D' M' => v' = .int .i64 (ys.length : Nat) ∧ D' = D ∧ M' = [(b, Obj.cells cur' T (0, 0))] ++ R) hd (fun a he w hs => ?_) (fun v' D' M' ⟨g1, g2, g3⟩ => by
    subst g1; subst g2; subst g3; exact h _ hov)
  have hb := hs.mt (b, Obj.cells cur T (0, 0)) (by simp)
  have hz : i * sz + ld * sz ≤ c * sz := by rw [← Nat.add_mul]; exact Nat.mul_le_mul_right sz (by omega)
  have hlen2 : (ys.flatMap cells).length = ys.length * sz := flat_len hc _
  have hle2 : ys.length * sz ≤ ld * sz := Nat.mul_le_mul_right sz (by omega)
  have hst := run_storeCells_at P b (i * sz) T (ys.flatMap cells) 0 cur w hb (by rw [hlen2, h5]; omega) (onesF h1)
  have hfc : (Builtin.firstCells sz (min ld m) (.slice (some ⟨bs, os, none⟩) m cy)).run P w = .ok (ys.flatMap cells).toArray w :=
    run_firstCells_some (P := P) w sz (min ld m) ⟨bs, os, none⟩ m cy (ys.flatMap cells) (by rw [hlen2, hym]) (fun j u hu => hcs.cell hs j u hu)
  refine ⟨_, w.setRow b cur', D, _, ?_, hs.mset (.here ..) rfl rfl rfl (Nat.le_refl _) (setRow_heap w b cur cur' T (0, 0) hb) (fun c hc => setRow_other _ _ _ hc), rfl, rfl, rfl⟩
  have hmin : Nat.min m ld = min ld m := Nat.min_comm m ld
  have hsz : ∀ w, (sizeOf T).run P w = .ok sz w := fun w => by
    obtain ⟨ti, h7, h8⟩ := Option.map_eq_some_iff.1 hi
    simp [sizeOf, typeInfo, h7, h8]
  have hcp : (Builtin.copy_ #[t, t'] ty #[.slice (some ⟨b, 0 + i * sz, none⟩) ld cd, .slice (some ⟨bs, os, none⟩) m cy]).run P w = .ok (.int .i64 (ys.length : Nat)) (w.setRow b cur') := by
    simp only [Nat.add_zero] at hst
    have hl2 : Sem.run P (Builtin.lenOf (.slice (some ⟨bs, os, none⟩) m cy)) w = .ok m w := rfl
    simp only [Nat.zero_add]
    simp [Builtin.copy_, Sem.run_bind, run_underlying hu, Result.andThen_ok, hsz, hl2, hmin, hfc, hst, goInt, hym, cur']
  rw [Nat.zero_add] at hcp
  simp [execOp, resolve, he.ev hx, he.ev hy, Sem.run_bind, Sem.run_pure, invoke, builtin, hcp, Result.andThen_ok, hym]
/-- a row cut short -/
theorem OL.short {α : Type} {sz : Nat} {cells : α → List Value} {T : TypeId} {b l c : Nat} {xs : List α} {q : MList} (h : OL sz cells T (.slice (some ⟨b, 0, none⟩) l c) xs q) (hc : ∀ x, (cells x).length = sz) {i : Nat} (hi : i ≤ xs.length) : OL sz cells T (.slice (some ⟨b, 0, none⟩) i c) (xs.take i) q := by
  rcases h.2 with ⟨h1', _, _⟩ | ⟨b', cap, cur, e1, h2, h3, h4, h5, h6⟩
  · cases h1'
  · injection e1 with e1 e2 e3
    injection e1 with e1
    injection e1 with e4 _
    subst e4; subst e3; subst h2
    refine ⟨flat_len hc _, .inr ⟨b, c, cur, by rw [List.length_take, Nat.min_eq_left hi], rfl, by rw [List.length_take]; omega, h4, h5, ?_⟩⟩
    rw [take_flat hc, ← h6, List.take_take, List.length_take, Nat.min_eq_left hi, Nat.min_eq_left (Nat.mul_le_mul_right sz hi)]
/-- append where there is room -/
theorem R.apRoom {α : Type} {sz : Nat} {cells : α → List Value} {T t : TypeId} {s x : Operand} {ti : TypeInfo} {xs ys : List α} {q R : MList} {b l c m : Nat} {xv : Value} (i : Nat) (ht : P.underlying t = some (.slice T)) (hi : P.info? T = some ti) (hsize : ti.size = sz) (ho : OL sz cells T (.slice (some ⟨b, 0, none⟩) l c) xs q) (hc : ∀ x, (cells x).length = sz) (h0 : 0 < sz)
    (hil : i ≤ xs.length) (hsrc : Src D (q ++ R) sz xv m (ys.flatMap cells)) (h1 : ∀ x, ∀ u ∈ cells x, u.oneCell' = true) (hroom : i + ys.length ≤ c) (hpos : 0 < xs.length)
    (h : ∀ q', OL sz cells T (.slice (some ⟨b, 0, none⟩) (i + ys.length) c) (xs.take i ++ ys) q' → Run P n Q g (.ops all rest :: k) (e.put dst (.slice (some ⟨b, 0, none⟩) (i + ys.length) c)) D (q' ++ R))
    (hv : e.ev s = some (.slice (some ⟨b, 0, none⟩) i c) := by rfl) (hx : e.ev x = some xv := by rfl) (hd : dstOk n dst = true := by rfl) :
    Run P n Q g (.ops all (⟨dst, .call { callee := .builtin .append, args := #[s, x], argTypes := #[t, t] }, ty, pos, af, none⟩ :: rest) :: k) e D (q ++ R) := by
  obtain ⟨b', c', cur, e1, h2, h3, h4, h5, h6⟩ := ho.blk hpos
  injection e1 with e1 e2 e3
  injection e1 with e1
  injection e1 with e4 _
  subst e4; subst e3; subst h2
  obtain ⟨hfl, A, cy, rfl, hA⟩ := hsrc
  rcases Nat.eq_zero_or_pos m with hp | hp
  · subst hp
    have hyn : ys = [] := by
      have := flat_len hc ys
      rw [hfl] at this
      exact List.eq_nil_of_length_eq_zero (Nat.eq_of_mul_eq_mul_right h0 this).symm
    subst hyn
    have hsh := ho.short hc hil
    simp only [List.append_nil, List.length_nil, Nat.add_zero] at h
    refine Run.eff (fun v' D' M' => v' = .slice (some ⟨b, 0, none⟩) i c ∧ D' = D ∧ M' = [(b, Obj.cells cur T (0, 0))] ++ R) hd (fun a he w hs => ?_) (fun v' D' M' ⟨g1, g2, g3⟩ => by
      subst g1; subst g2; subst g3; exact h _ hsh)
    have hr : (Builtin.append_ #[t, t] ty #[.slice (some ⟨b, 0, none⟩) i c, .slice A 0 cy]).run P w = .ok (.slice (some ⟨b, 0, none⟩) i c) w := by
      have hic : i ≤ c := by omega
      cases A <;> simp [Builtin.append_, run_underlying ht, sizeOf, typeInfo, hi, Builtin.lenOf, Builtin.firstCells, hic, storeCells, loadCells, loadCellsFrom]
    refine ⟨_, w, D, _, ?_, hs, rfl, rfl, rfl⟩
    simp [execOp, resolve, he.ev hv, he.ev hx, Sem.run_bind, Sem.run_pure, invoke, builtin, hr, Result.andThen_ok]
  obtain ⟨bs, os, rfl, hcs⟩ := hA hp
  have hym : ys.length = m := by
    have := flat_len hc ys
    rw [hfl] at this
    exact (Nat.eq_of_mul_eq_mul_right h0 this).symm
  have ht6 : cur.toList.take ((xs.take i).length * sz) = (xs.take i).flatMap cells := by
    rw [take_flat hc, ← h6, List.take_take, List.length_take, Nat.min_eq_left hil, Nat.min_eq_left (Nat.mul_le_mul_right sz hil)]
  have hov := OL.over (T := T) (b := b) (l := i + ys.length) hc (xs := xs.take i) (ys := ys) i (by rw [List.length_take]; omega) h4 h5 ht6 (by rw [List.length_take]; omega) hroom (by rw [List.length_take]; omega)
  rw [List.take_of_length_le (l := xs.take i) (by rw [List.length_take]; omega), List.drop_of_length_le (l := xs.take i) (by rw [List.length_take]; omega), List.append_nil] at hov
  have hyl := flat_len hc ys
  refine Run.eff (fun v' D' M' => v' = .slice (some ⟨b, 0, none⟩) (i + ys.length) c ∧ D' = D ∧ M' = [(b, Obj.cells (cur.toList.take (i * sz) ++ ys.flatMap cells ++ cur.toList.drop (i * sz + (ys.flatMap cells).length)).toArray T (0, 0))] ++ R) hd (fun a he w hs => ?_) (fun v' D' M' ⟨g1, g2, g3⟩ => by
    subst g1; subst g2; subst g3; exact h _ hov)
  have hb := hs.mt (b, Obj.cells cur T (0, 0)) (by simp)
  subst hsize
  have hz : i * ti.size + ys.length * ti.size ≤ c * ti.size := by rw [← Nat.add_mul]; exact Nat.mul_le_mul_right _ hroom
  have hr := run_append_room (P := P) w t ty T ti ht hi b i c cur hb ⟨bs, os, none⟩ m cy (ys.flatMap cells) (by rw [hyl, hym]) (hcs.cell hs) (onesF h1) (by omega) (by rw [hyl, h5]; omega)
  refine ⟨_, w.setRow b (cur.toList.take (i * ti.size) ++ ys.flatMap cells ++ cur.toList.drop (i * ti.size + (ys.flatMap cells).length)).toArray, D, _, ?_, hs.mset (.here ..) rfl rfl rfl (Nat.le_refl _) (setRow_heap w b cur _ T (0, 0) hb) (fun c hc => setRow_other _ _ _ hc), rfl, rfl, rfl⟩
  rw [hym]
  simp [execOp, resolve, he.ev hv, he.ev hx, Sem.run_bind, Sem.run_pure, invoke, builtin, hr, Result.andThen_ok]
/-- clear behind the row's end -/
theorem R.clrEnd {α : Type} {sz : Nat} {cells : α → List Value} {T t : TypeId} {xs : List α} {q R : MList} {x : Operand} {b l c c' m off : Nat} {z : Value} {zc : List Value} (ho : OL sz cells T (.slice (some ⟨b, 0, none⟩) l c) xs q) (hl : l = xs.length) (hc : ∀ x, (cells x).length = sz)
    (hu : ∀ w, (underlying t).run P w = .ok (.slice T) w) (hz : ∀ w, (zeroValue T).run P w = .ok z w) (hzc : zc.length = sz) (h0 : 0 < sz) (h1 : zc.all (·.oneCell') = true) (hm : 0 < m) (hi : xs.length + m ≤ c) (hoff : off = 0 + xs.length * sz)
    (h : ∀ q', OL sz cells T (.slice (some ⟨b, 0, none⟩) l c) xs q' → Run P n Q g (.ops all rest :: k) (e.put dst (.tuple #[])) D (q' ++ R))
    (hx : e.ev x = some (.slice (some ⟨b, off, none⟩) m c') := by rfl) (hzs : z.cells = zc.toArray := by rfl) (hd : dstOk n dst = true := by rfl) :
    Run P n Q g (.ops all (⟨dst, .call { callee := .builtin .clear, args := #[x], argTypes := #[t] }, ty, pos, af, none⟩ :: rest) :: k) e D (q ++ R) := by
  subst hoff; subst hl
  rcases ho.2 with ⟨h1', _, _⟩ | ⟨b', cap, cur, e1, h2, h3, h4, h5, h6⟩
  · cases h1'
  · injection e1 with e1 e2 e3
    injection e1 with e1
    injection e1 with e4 _
    subst e4; subst e3; subst h2
    have hmz : m * zc.length ≠ 0 := by rw [hzc]; exact Nat.mul_ne_zero (by omega) (by omega)
    have hle : xs.length * sz + m * sz ≤ c * sz := by rw [← Nat.add_mul]; exact Nat.mul_le_mul_right sz hi
    have hrl : (reps m zc).length = m * sz := by simp [reps, hzc]
    let cur' : Array Value := (cur.toList.take (xs.length * sz + 0) ++ reps m zc ++ cur.toList.drop (xs.length * sz + 0 + (reps m zc).length)).toArray
    refine Run.eff (fun v' D' M' => v' = .tuple #[] ∧ D' = D ∧ M' = [(b, Obj.cells cur' T (0, 0))] ++ R) hd (fun a he w hs => ?_) (fun v' D' M' ⟨g1, g2, g3⟩ => by
      subst g1; subst g2; subst g3
      refine h _ ⟨by rw [flat_len hc], .inr ⟨b, c, cur', rfl, rfl, h3, h4, ?_, ?_⟩⟩
      · simp only [cur', List.size_toArray, List.length_append, List.length_take, List.length_drop, Array.length_toList, h5, hrl]; omega
      · have hl1 : (cur.toList.take (xs.length * sz)).length = xs.length * sz := by rw [List.length_take, Array.length_toList (xs := cur), h5]; omega
        simp only [cur', Nat.add_zero, List.append_assoc]
        rw [List.take_append, hl1, Nat.sub_self, List.take_zero, List.append_nil, List.take_take, Nat.min_self]
        exact h6)
    have hb := hs.mt (b, Obj.cells cur T (0, 0)) (by simp)
    have hst := run_storeCells_at P b (xs.length * sz) T (reps m zc) 0 cur w hb (by rw [hrl, h5]; omega) (one_reps (fun u hu => List.all_eq_true.1 h1 u hu) _)
    refine ⟨.tuple #[], w.setRow b cur', D, _, ?_, hs.mset (.here ..) rfl rfl rfl (Nat.le_refl _) (setRow_heap w b cur cur' T (0, 0) hb) (fun c hc => setRow_other _ _ _ hc), rfl, rfl, rfl⟩
    have hzr : Builtin.zeroCells z.cells m = (reps m zc).toArray := reps_eq m z.cells zc hzs hmz ▸ (by unfold Builtin.zeroCells; rw [hzs]; simp)
    have hcl : (Builtin.clear_ #[t] ty #[.slice (some ⟨b, 0 + xs.length * sz, none⟩) m c']).run P w = .ok (.tuple #[]) (w.setRow b cur') := by
      obtain ⟨m', hm'⟩ : ∃ m', m = m' + 1 := ⟨m - 1, by omega⟩
      subst hm'
      simp only [Nat.zero_add]
      simp [Builtin.clear_, Sem.run_bind, hu, Result.andThen_ok, hz, hzr, hst, Sem.run_pure, cur']
    rw [Nat.zero_add] at hcl
    simp [execOp, resolve, he.ev hx, Sem.run_bind, Sem.run_pure, invoke, builtin, hcl, Result.andThen_ok]
/-- append(s[:i], make(S, k)...) where there is no room -/
theorem R.apZero {α : Type} {sz : Nat} {cells : α → List Value} {T t tn : TypeId} {s x : Operand} {ti : TypeInfo} {z : Value} {zx : α} {xs : List α} {q R : MList} {b l c : Nat} {kn kq : IntKind} {jm : Int} (i m bytes : Nat) (ht : P.underlying t = some (.slice T)) (htn : P.underlying tn = some (.int kn)) (hi : P.info? T = some ti) (ho : OL sz cells T (.slice (some ⟨b, 0, none⟩) l c) xs q) (hc : ∀ x, (cells x).length = sz)
    (hil : i ≤ xs.length) (hm : 0 < m) (hgrow : c < i + m) (him : i + m ≤ 1000000) (hxl : 0 < xs.length)
    (h : ∀ b2 c2 q', b2 ≠ b → i + m ≤ c2 → OL sz cells T (.slice (some ⟨b2, 0, none⟩) (i + m) c2) (xs.take i ++ List.replicate m zx) q' → Run P n Q g (.ops all rest :: k) (e.put dst (.slice (some ⟨b2, 0, none⟩) (i + m) c2)) D (q' ++ (q ++ R)))
    (hz : ti.zero = some z := by rfl) (hsize : ti.size = sz := by rfl) (hby : ti.bytes = bytes := by rfl) (hzs : z.cells = (cells zx).toArray := by rfl) (hsz : 0 < sz := by decide) (hb : bytes ≤ 1000 := by decide)
    (hv : e.ev s = some (.slice (some ⟨b, 0, none⟩) i c) := by rfl) (hx : e.ev x = some (.int kq jm) := by rfl) (hj : jm = (m : Int) := by first | rfl | omega) (hd : dstOk n dst = true := by rfl) :
    Run P n Q g (.ops all (⟨dst, .call { callee := .builtin .append, args := #[s, x], argTypes := #[t, tn] }, ty, pos, af, none⟩ :: rest) :: k) e D (q ++ R) := by
  subst hj
  obtain ⟨b', c', cur, e1, h2, h3, h4, h5, h6⟩ := ho.blk hxl
  injection e1 with e1 e2 e3
  injection e1 with e1
  injection e1 with e4 _
  subst e4; subst e3; subst h2
  subst hsize; subst hby
  have hzl : z.cells.size = ti.size := by rw [hzs, List.size_toArray, hc]
  refine Run.eff (fun v' D' M' => ∃ b2 c2 q', b2 ≠ b ∧ i + m ≤ c2 ∧ v' = .slice (some ⟨b2, 0, none⟩) (i + m) c2 ∧ OL ti.size cells T v' (xs.take i ++ List.replicate m zx) q' ∧ D' = D ∧ M' = q' ++ ([(b, Obj.cells cur T (0, 0))] ++ R)) hd (fun a he w hs => ?_)
    (fun v' D' M' ⟨b2, c2, q', g1, g2, g3, g4, g5, g6⟩ => by subst g3; subst g5; subst g6; exact h b2 c2 q' g1 g2 g4)
  have hb := hs.mt (b, Obj.cells cur T (0, 0)) (by simp)
  have hbl : b < w.heap.size := (Array.getElem?_eq_some_iff.1 hb).1
  have hnc : Builtin.nextslicecap (i + m) c * ti.bytes ≤ 281474976710656 := growslice_fits (by omega) (by
    have : (i + m) * ti.bytes ≤ 1000000 * 1000 := Nat.mul_le_mul him (by omega)
    omega)
  have hold : (Builtin.firstCells ti.size i (.slice (some ⟨b, 0, none⟩) i c)).run P w.drew = .ok ((xs.take i).flatMap cells).toArray w.drew := by
    refine run_firstCells_some (P := P) w.drew ti.size i ⟨b, 0, none⟩ i c ((xs.take i).flatMap cells) (by rw [flat_len hc, List.length_take, Nat.min_eq_left hil]) fun j u hu => ?_
    rw [take_flat hc, List.getElem?_take] at hu
    split at hu
    · rw [← h6, List.getElem?_take] at hu
      split at hu
      · rw [add_plain]
        have hb' : w.drew.heap[b]? = some (.cells cur T (0, 0)) := hb
        simp [World.cell?, hb', ← Array.getElem?_toList, hu]
      · cases hu
    · cases hu
  have hbytes : m * ti.bytes ≤ 281474976710656 := by
    have : m * ti.bytes ≤ 1000000 * 1000 := Nat.mul_le_mul (by omega) (by omega)
    omega
  have hr := Lib.run_append_grow_zeros (P := P) w t tn ty T ti z kq kn ht htn hi hz (some ⟨b, 0, none⟩) i c ((xs.take i).flatMap cells) hold m hm hsz hgrow (by omega) hbytes hnc
  have hge := grownCap_ge w (i + m) c T
  have hcm : grownCap w (i + m) c T ≤ maxLen := grownCap_le_maxLen w (i + m) c T (by simp [maxLen]; omega)
  have hz1 : Builtin.zeroCells z.cells m = ((List.replicate m zx).flatMap cells).toArray := by
    have h7 := reps_eq m z.cells (cells zx) hzs (by rw [hc]; exact Nat.mul_ne_zero (by omega) (by omega))
    have h8 : Builtin.zeroCells z.cells m = (Array.range (m * (cells zx).length)).map (z.cells[· % z.cells.size]!) := by unfold Builtin.zeroCells; rw [hzs]; simp
    rw [h8, h7]
    simp [reps, List.flatMap_replicate]
  let nw : Array Value := ((xs.take i).flatMap cells).toArray ++ Builtin.zeroCells z.cells m ++ Builtin.zeroCells z.cells (grownCap w (i + m) c T - (i + m))
  refine ⟨.slice (some ⟨w.heap.size, 0, none⟩) (i + m) (grownCap w (i + m) c T), w.drew.alloc (.cells nw T), D, (w.heap.size, .cells nw T (0, 0)) :: ([(b, Obj.cells cur T (0, 0))] ++ R), ?_, ?_, w.heap.size, grownCap w (i + m) c T, [(w.heap.size, .cells nw T (0, 0))], by omega, hge, rfl, ⟨?_, .inr ⟨w.heap.size, grownCap w (i + m) c T, nw, ?_, rfl, ?_, hcm, ?_, ?_⟩⟩, rfl, rfl⟩
  · simp only [execOp, resolve, he.ev hv, he.ev hx, Sem.run_bind, Sem.run_pure, invoke, builtin, List.map_toArray, List.map_cons, List.map_nil, Result.andThen_ok]
    rw [hr]; rfl
  · exact (hs.drew (w.drawn + 1) (Nat.le_succ _)).alloc (.cells nw T (0, 0))
  · rw [flat_len hc]
  · simp [Nat.min_eq_left hil]
  · simp [Nat.min_eq_left hil]; omega
  · simp only [nw, Array.size_append, List.size_toArray, size_zeroCells, hzl, flat_len hc, List.length_take, Nat.min_eq_left hil]
    rw [← Nat.add_mul, ← Nat.add_mul]
    congr 1; omega
  · simp only [nw]
    rw [hz1]
    have : ((xs.take i ++ List.replicate m zx).flatMap cells).length = (xs.take i ++ List.replicate m zx).length * ti.size := flat_len hc _
    rw [← this, List.flatMap_append]
    simp only [Array.toList_append]
    exact List.take_left
end
end Go.Proofs.YtgdpjpmjcpieiaaGreat

/- Views: where one stands, or would (binary search); a copy of one's own. No condition. -/
namespace Go.Proofs.YtgdpjpmjcpieiaaGreat
open Go
set_option linter.unusedVariables false
set_option linter.unusedSimpArgs false
set_option maxRecDepth 100000
set_option maxHeartbeats 0
abbrev VO (v : Value) (xs : List Vw) (q : MList) : Prop := OL 7 Vw.cells 72 v xs q
def posV (xs : List Vw) (id : Int) : Nat := (xs.filter (fun x => decide (x.id < id))).length
theorem pos_of {xs : List Vw} {id : Int} {i : Nat} (hi : i ≤ xs.length) (h1 : ∀ t x, t < i → xs[t]? = some x → x.id < id) (h2 : ∀ t x, i ≤ t → xs[t]? = some x → ¬ x.id < id) : posV xs id = i := by
  unfold posV
  conv => lhs; rw [← List.take_append_drop i xs, List.filter_append]
  rw [List.filter_eq_self.2, List.filter_eq_nil_iff.2]
  · simp [Nat.min_eq_left hi]
  · intro x hx
    obtain ⟨t, ht⟩ := List.getElem?_of_mem hx
    rw [List.getElem?_drop] at ht
    simpa using h2 (i + t) x (by omega) ht
  · intro x hx
    obtain ⟨t, ht⟩ := List.getElem?_of_mem hx
    rw [List.getElem?_take] at ht
    split at ht
    · simpa using h1 t x (by assumption) ht
    · cases ht
theorem mid_lt (i j : Nat) (hi : i ≤ 1000000) (hj : j ≤ 1000000) : IntKind.u64.wrap ((i : Int) + (j : Int)) = (i : Int) + (j : Int) := by
  simp [IntKind.wrap, IntKind.bits, IntKind.signed]; omega
theorem mid_shr (i j : Nat) : ((i : Int) + (j : Int)).fdiv (2 ^ (min (Int.toNat 1) IntKind.u64.bits)) = (((i + j) / 2 : Nat) : Int) := by
  have : (2 : Int) ^ (min (Int.toNat 1) IntKind.u64.bits) = 2 := by decide
  rw [this, Int.fdiv_eq_ediv_of_nonneg _ (by decide)]
  omega
theorem mid_back (i j : Nat) (hi : i ≤ 1000000) (hj : j ≤ 1000000) : IntKind.i64.wrap (((i + j) / 2 : Nat) : Int) = (((i + j) / 2 : Nat) : Int) := by
  simp [IntKind.wrap, IntKind.bits, IntKind.signed]; omega
theorem cmpI_lt {a b : Int} : cmpI a b < 0 ↔ a < b := by simp only [cmpI]; grind
theorem cmpI_eq {a b : Int} : cmpI a b = 0 ↔ a = b := by simp only [cmpI]; grind
theorem pl1_spec {g : Gl} {D : Dict} {M : MList} (x : Vw) (id : Int) : Gives Tryz.prog g 120 [.agg (Vw.cells x).toArray, .int .i64 id] D M (.int .i64 (cmpI x.id id)) := by
  refine Gives.enter Tryz.func120 rfl Tryz.ntmps120 ?_; refine R.sq ?_; refine R.rg ?_; refine R.bxA (fun zb1 hzb1 => ?_); refine R.as ?_; refine R.nl ?_; refine R.hs (e' := [(1, _), (2, _)]) ?_; refine R.sq ?_; refine R.rg ?_; refine R.fa Tryz.runUnderlying72 Tryz.sizeOf3 ?_; refine R.ld Tryz.isAgg3 ?_; refine R.mv ?_; refine R.cg Tryz.call121 (cmp_spec _ _) ?_; refine R.as ?_; refine R.nl ?_; refine R.hs (e' := [(4, _)]) ?_; exact R.rt (RV.t .nil) 1 rfl
theorem getV_first {xs : List Vw} {id : Int} {j : Nat} {y : Vw} (hr : ¬ y.id < id) (hord : ∀ (j i : Nat) (x y : Vw), i < j → xs[i]? = some x → xs[j]? = some y → x.id < y.id) (hl : ∀ t x, t < j → xs[t]? = some x → x.id < id) (hy : xs[j]? = some y) : (getV xs id).isSome = decide (cmpI y.id id = 0) := by
  by_cases h : y.id = id
  · rw [getV_at hy h fun t x ht hx => by have := hl t x ht hx; omega]
    simp [cmpI_eq, h]
  · rw [getV_no fun t x ht hx => ?_]
    · simp [cmpI_eq, h]
    · rcases Nat.lt_trichotomy t j with h1 | h1 | h1
      · have := hl t x h1 hx; omega
      · subst h1; rw [hy] at hx; injection hx with hx; rw [← hx]; exact h
      · have := hord _ _ y x h1 hy hx; omega
theorem bs_spec {g : Gl} {D : Dict} {M : MList} {a : Value} {xs : List Vw} (id : Int) (hn : xs.length ≤ 1000000) (hS : Src D M 7 a xs.length (xs.flatMap Vw.cells)) (hord : ∀ (j i : Nat) (x y : Vw), i < j → xs[i]? = some x → xs[j]? = some y → x.id < y.id) :
    Gives Tryz.prog g 119 [a, .int .i64 id, .func (.func 120) #[] #[]] D M (.tuple #[.int .i64 (posV xs id), .bool (getV xs id).isSome]) := by
  obtain ⟨A, c, rfl, _⟩ := hS.2
  refine Gives.enter Tryz.func119 rfl Tryz.ntmps119 ?_; refine R.sq ?_; refine R.rg ?_; refine R.as ?_; refine R.as ?_; refine R.nl ?_; refine R.hs (e' := [(0, _), (1, _), (2, _)]) ?_; refine R.sq ?_; refine R.rg ?_; refine R.mv ?_; refine R.ln Tryz.runUnderlying24 ?_; refine R.as ?_; refine R.nl ?_; refine R.hs (e' := [(0, _), (1, _), (2, _), (8, _)]) ?_; refine R.sq ?_; refine R.rg ?_; refine R.mv ?_; refine R.as ?_; refine R.as ?_; refine R.nl ?_; refine R.hs (e' := [(0, _), (1, _), (2, _), (8, _), (9, _), (10, _)]) ?_; refine R.sq ?_; refine Run.block ?_
  refine Run.loop (ι := Nat × Nat) [(0, _), (1, _), (2, _), (8, _)] (fun p => [(9, .int .i64 (p.1 : Int)), (10, .int .i64 (p.2 : Int))]) (fun _ => D) (fun _ => M) (fun p => p.1 ≤ p.2 ∧ p.2 ≤ xs.length ∧ (∀ t x, t < p.1 → xs[t]? = some x → x.id < id) ∧ (∀ t x, p.2 ≤ t → xs[t]? = some x → ¬ x.id < id)) (fun p => p.2 - p.1) ((0, xs.length)) (by repeat (first | exact trivial | refine ⟨rfl, ?_⟩)) ?h0 (by repeat (first | exact trivial | refine ⟨rfl, ?_⟩)) (fun w hs => hs) ?_
  case h0 => exact ⟨Nat.zero_le _, Nat.le_refl _, fun t x ht => by simp at ht, fun t x ht hx => by rw [List.getElem?_eq_none ht] at hx; cases hx⟩
  rintro ⟨i, j⟩ ⟨hij, hj, hl, hr⟩
  simp only at hij hj hl hr
  refine R.sq ?_; refine R.sq ?_; refine R.rg ?_; refine R.mv ?_; refine R.mv ?_; refine R.cm ?_; refine R.nl ?_; refine R.hs (e' := [(0, _), (1, _), (2, _), (8, _), (9, _), (10, _), (17, _)]) ?_; refine R.cd (fun zc1 => ?_) (fun zc1 => ?_)
  ·
   have hlt : i < j := by simp at zc1; omega
   obtain ⟨x, hgx⟩ := get_of_lt (xs := xs) (i := (i + j) / 2) (by omega)
   obtain ⟨b1, o1, hI1, hc1⟩ := hS.at rfl Vw.len hgx
   refine Run.skip ?_; refine Run.block ?_; refine R.sq ?_; refine R.rg ?_; refine R.mv ?_; refine R.mv ?_; refine R.ad ?_; refine R.cv Tryz.runUnderlying3 Tryz.runUnderlying97 (mid_lt i j (by omega) (by omega)) ?_; refine R.sr (mid_shr i j) ?_; refine R.cv Tryz.runUnderlying97 Tryz.runUnderlying3 (mid_back i j (by omega) (by omega)) ?_; refine R.as ?_; refine R.nl ?_; refine R.hs (e' := [(0, _), (1, _), (2, _), (8, _), (9, _), (10, _), (11, _)]) ?_; refine R.sq ?_; refine R.rg ?_; refine R.mv ?_; refine R.mv ?_; refine R.mv ?_; refine R.ix (hI1) Tryz.runUnderlying24 Tryz.sizeOf72 ?_; refine R.lAD 7 Tryz.isAgg72 Tryz.sizeOf72 ?_; refine R.mv ?_; refine R.cy (Tryz.call120) (pl1_spec x id) ?_; refine R.cm ?_; refine R.nl ?_; refine R.hs (e' := [(0, _), (1, _), (2, _), (8, _), (9, _), (10, _), (11, _), (31, _)]) ?_; refine R.cd (fun zc2 => ?_) (fun zc2 => ?_)
   ·
    have hx : x.id < id := by rw [← cmpI_lt]; simpa using zc2
    have hnl : ∀ t y, t < (i + j) / 2 + 1 → xs[t]? = some y → y.id < id := fun t y ht hy => by
      rcases Nat.lt_or_ge t ((i + j) / 2) with h | h
      · have := hord _ _ y x h hy hgx; omega
      · rw [show t = (i + j) / 2 by omega, hgx] at hy; injection hy with hy; subst hy; exact hx
    refine R.rg ?_; refine R.mv ?_; refine R.ad ?_; refine R.as ?_; refine R.nl ?_; refine R.hs (e' := [(0, _), (1, _), (2, _), (8, _), (9, _), (10, _)]) ?_; refine Run.endBlock ?_
    first | exact Run.again ((i + j) / 2 + 1, j) ⟨by simp <;> omega, hj, hnl, hr⟩ (by simp <;> omega) (by refine ⟨by congr 2, rfl, ?_⟩; repeat (first | exact trivial | refine ⟨rfl, ?_⟩)) (fun w hs => hs) | exact Run.again (i, (i + j) / 2) ⟨by simp <;> omega, by simp <;> omega, hl, hnr⟩ (by simp <;> omega) (by refine ⟨rfl, rfl, ?_⟩; repeat (first | exact trivial | refine ⟨rfl, ?_⟩)) (fun w hs => hs)
   ·
    have hx : ¬ x.id < id := by rw [← cmpI_lt]; simpa using zc2
    have hnr : ∀ t y, (i + j) / 2 ≤ t → xs[t]? = some y → ¬ y.id < id := fun t y ht hy => by
      rcases Nat.lt_or_ge ((i + j) / 2) t with h | h
      · have := hord _ _ x y h hgx hy; omega
      · rw [show t = (i + j) / 2 by omega, hgx] at hy; injection hy with hy; subst hy; exact hx
    refine R.rg ?_; refine R.mv ?_; refine R.as ?_; refine R.nl ?_; refine R.hs (e' := [(0, _), (1, _), (2, _), (8, _), (9, _), (10, _)]) ?_; refine Run.endBlock ?_
    first | exact Run.again ((i + j) / 2 + 1, j) ⟨by simp <;> omega, hj, hnl, hr⟩ (by simp <;> omega) (by refine ⟨by congr 2, rfl, ?_⟩; repeat (first | exact trivial | refine ⟨rfl, ?_⟩)) (fun w hs => hs) | exact Run.again (i, (i + j) / 2) ⟨by simp <;> omega, by simp <;> omega, hl, hnr⟩ (by simp <;> omega) (by refine ⟨rfl, rfl, ?_⟩; repeat (first | exact trivial | refine ⟨rfl, ?_⟩)) (fun w hs => hs)
  ·
   have hji : j = i := by simp at zc1; omega
   subst hji
   have hp : posV xs id = j := pos_of hj hl hr
   refine Run.exit rfl ?_; refine R.sq ?_; refine R.rg ?_; refine R.mv ?_; refine R.mv ?_; refine R.mv ?_; refine R.cm ?_; refine R.mv ?_; refine R.gd (fun zg3 => ?_) (fun zg3 => ?_)
   ·refine R.mv ?_; refine R.gY (zg3) ?_; refine R.mv ?_; refine R.gY (zg3) ?_; refine R.mv ?_; refine R.gY (zg3) ?_
    have hlt : j < xs.length := by simpa using zg3
    obtain ⟨y, hgy⟩ := get_of_lt hlt
    obtain ⟨b2, o2, hI2, hc2⟩ := hS.at rfl Vw.len hgy
    refine R.ix hI2 Tryz.runUnderlying24 Tryz.sizeOf72 ?_; refine R.gY (zg3) ?_; refine R.lAD 7 Tryz.isAgg72 Tryz.sizeOf72 ?_; refine R.gY (zg3) ?_; refine R.mv ?_; refine R.gY (zg3) ?_; refine R.cy (Tryz.call120) (pl1_spec y id) ?_; refine R.gY (zg3) ?_; refine R.cm ?_; refine R.pT (zg3) ?_; refine R.as ?_; refine R.as ?_; refine R.nl ?_; refine R.hs (e' := [(6, _), (7, _)]) ?_; refine R.rt (RV.t (RV.t .nil)) 0 ?_
    first
    | (have hs : (getV xs id).isSome = decide (cmpI y.id id = 0) := getV_first (hr j y (Nat.le_refl _) hgy) hord hl hgy
       rw [hs, hp])
    | (have hlt : ¬ j < xs.length := by simpa using zg3
       have hs : (getV xs id).isSome = false := by rw [getV_no fun t x ht hx => by have := hl t x (by omega) hx; omega]; rfl
       rw [hs, hp])
   ·refine R.gF (zg3) ?_; refine R.gF (zg3) ?_; refine R.gF (zg3) ?_; refine R.gF (zg3) ?_; refine R.gF (zg3) ?_; refine R.gF (zg3) ?_; refine R.gF (zg3) ?_; refine R.pF (zg3) ?_; refine R.as ?_; refine R.as ?_; refine R.nl ?_; refine R.hs (e' := [(6, _), (7, _)]) ?_; refine R.rt (RV.t (RV.t .nil)) 0 ?_
    first
    | (have hs : (getV xs id).isSome = decide (cmpI y.id id = 0) := getV_first (hr j y (Nat.le_refl _) hgy) hord hl hgy
       rw [hs, hp])
    | (have hlt : ¬ j < xs.length := by simpa using zg3
       have hs : (getV xs id).isSome = false := by rw [getV_no fun t x ht hx => by have := hl t x (by omega) hx; omega]; rfl
       rw [hs, hp])
end Go.Proofs.YtgdpjpmjcpieiaaGreat

/- Views: a copy, one put in between, one cut out. No condition. -/
namespace Go.Proofs.YtgdpjpmjcpieiaaGreat
open Go
set_option linter.unusedVariables false
set_option linter.unusedSimpArgs false
set_option maxRecDepth 100000
set_option maxHeartbeats 0
theorem place_spec {g : Gl} {D : Dict} {M : MList} {a : Value} {xs : List Vw} (id : Int) (hn : xs.length ≤ 1000000) (hS : Src D M 7 a xs.length (xs.flatMap Vw.cells)) (hok : okVs xs = true) :
    Gives Tryz.prog g 97 [a, .int .i64 id] D M (.tuple #[.int .i64 (posV xs id), .bool (getV xs id).isSome]) := by
  obtain ⟨A, c, rfl, _⟩ := hS.2
  refine Gives.enter Tryz.func97 rfl Tryz.ntmps97 ?_; refine R.sq ?_; refine R.rg ?_; refine R.as ?_; refine R.as ?_; refine R.nl ?_; refine R.hs (e' := [(0, _), (1, _)]) ?_; refine R.sq ?_; refine R.rg ?_; refine R.mv ?_; refine R.mv ?_; refine R.cg Tryz.call119 (bs_spec id hn hS (okVs_lt hok)) ?_; refine R.ex ?_; refine R.ex ?_; refine R.as ?_; refine R.as ?_; refine R.nl ?_; refine R.hs (e' := [(4, _), (5, _)]) ?_; exact R.rt (RV.t (RV.t .nil)) 0 rfl
theorem clone_spec {g : Gl} {D : Dict} {M : MList} {a : Value} {xs : List Vw} (hn : xs.length ≤ 1000000) (ha : Vws D a xs) :
    Spec Tryz.prog g 94 [a] D M (fun v D' M' => D' = D ∧ ∃ q, VO v xs q ∧ M' = q ++ M) := by
  obtain ⟨A, c, rfl, hl1, hl2⟩ := ha.form
  refine Spec.enter Tryz.func94 rfl Tryz.ntmps94 rfl ?_; refine R.sq ?_; refine R.rg ?_; refine R.as ?_; refine R.nl ?_; refine R.hs (e' := [(0, _)]) ?_; refine R.sq ?_; refine R.sq ?_; refine R.rg ?_; refine R.mv ?_; refine R.es Tryz.runUnderlying24 ?_; refine R.nl ?_; refine R.hs (e' := [(0, _), (4, _)]) ?_; refine R.cd (fun zc1 => ?_) (fun zc1 => ?_)
  ·
   have hx : xs = [] := by
     obtain ⟨_, A', c', e1, hA⟩ := ha.src ([] : MList)
     injection e1 with e1 _ _
     rcases Nat.eq_zero_or_pos xs.length with h0 | h0
     · exact List.eq_nil_of_length_eq_zero h0
     · obtain ⟨b, off, h2, _⟩ := hA h0
       rw [e1, h2] at zc1; cases zc1
   subst hx
   refine R.sq ?_; refine R.rg ?_; refine R.as ?_; refine R.nl ?_; refine R.hs (e' := [(2, _)]) ?_
   first | exact R.rk (RV.t .nil) 0 ⟨rfl, [], OL.nil, rfl⟩ | exact R.rk (RV.t .nil) 0 ⟨rfl, q', hO2, rfl⟩
  ·refine Run.skip ?_; refine R.sq ?_; refine R.rg ?_; refine R.bs0 Tryz.runUnderlying24 Tryz.sizeOf72 (fun b0 hb0 => ?_); refine R.mv ?_; refine R.ap Tryz.underlying24 info72 ((OL.lit0 : OL 7 Vw.cells 72 _ ([] : List Vw) _)) (List.Perm.refl _) (ha.src _) (by simp; omega) (onesF Vw.ones) ?_; intro v' q' hO'
   have hO2 : VO v' xs q' := by have := OL.cat (ys := xs) hO' rfl rfl; simpa using this
   refine R.as ?_; refine R.nl ?_; refine R.hs (e' := [(2, _)]) ?_
   first | exact R.rk (RV.t .nil) 0 ⟨rfl, [], OL.nil, rfl⟩ | exact R.rk (RV.t .nil) 0 ⟨rfl, q', hO2, rfl⟩
theorem Cs.drop {α : Type} {sz : Nat} {cells : α → List Value} (hc : ∀ x, (cells x).length = sz) {D : Dict} {M : MList} {b off off' : Nat} {xs : List α} (i : Nat) (h : Cs D M b off (xs.flatMap cells)) (ho : off' = off + i * sz) : Cs D M b off' ((xs.drop i).flatMap cells) := by
  obtain ⟨c, T, fr, h1, h2⟩ := h
  subst ho
  refine ⟨c, T, fr, h1, fun j u hu => ?_⟩
  rw [drop_flat hc, List.getElem?_drop] at hu
  rw [Nat.add_assoc]; exact h2 _ _ hu
theorem Cs.plus {D : Dict} {q R : MList} {b off : Nat} {vs : List Value} (h : Cs D R b off vs) : Cs D (q ++ R) b off vs := by
  obtain ⟨c, T, fr, h1, h2⟩ := h
  exact ⟨c, T, fr, h1.imp id (List.mem_append_right _), h2⟩
theorem OL.cs {α : Type} {sz : Nat} {cells : α → List Value} {T : TypeId} {D : Dict} {R q : MList} {b l c : Nat} {xs : List α} (h : OL sz cells T (.slice (some ⟨b, 0, none⟩) l c) xs q) (hp : 0 < xs.length) : Cs D (q ++ R) b 0 (xs.flatMap cells) := by
  obtain ⟨_, A, c', e1, hA⟩ := h.src (D := D) (M := q ++ R) (fun p hp => List.mem_append_left _ hp)
  obtain ⟨b', off, e2, hcs⟩ := hA hp
  injection e1 with e1 _ _
  rw [e2] at e1; injection e1 with e1; injection e1 with e1 e3 _
  subst e1; subst e3; exact hcs
theorem one_cs {D : Dict} {M : MList} {b : Nat} {T : TypeId} {y : Vw} (h : (b, Obj.cells (Vw.cells y).toArray T (0, 0)) ∈ M) : Cs D M b 0 ([y].flatMap Vw.cells) :=
  ⟨_, T, (0, 0), .inr h, fun j u hu => by simpa using hu⟩
section
variable {P : Program} {n : Nat} {Q : Exit → Act → World → Prop} {g : Gl} {k : List It} {e : Env} {D : Dict} {M : MList}
  {all : Array Oper} {rest : List Oper} {dst : Option Nat} {ty : TypeId} {pos : String} {af : Array Edge}
/-- s[i:], looked at for its bounds -/
theorem R.cutV {t el : TypeId} {x lo : Operand} {A : Option Addr} {l c sz : Nat} {kd : IntKind} {j : Int} (i : Nat) (hu : ∀ w, (underlying t).run P w = .ok (.slice el) w) (hS : ∀ w, (sizeOf el).run P w = .ok sz w)
    (h : ∀ v, Run P n Q g (.ops all rest :: k) (e.put dst v) D M)
    (hx : e.ev x = some (.slice A l c) := by rfl) (hi : e.ev lo = some (.int kd j) := by rfl) (hj : j = (i : Int) := by first | rfl | omega) (h1 : i ≤ l := by omega) (hd : dstOk n dst = true := by rfl) :
    Run P n Q g (.ops all (⟨dst, .slice t x (some lo) none none, ty, pos, af, none⟩ :: rest) :: k) e D M := by
  subst hj
  exact Run.sliceLo hu hS hx hi h1 hd (h _)
end
theorem ins1 (xs : List Vw) (y : Vw) (i : Nat) (hi : i < xs.length) : ((xs.take (i + 1) ++ xs.drop i ++ xs.drop (i + 1 + (xs.drop i).length)).take i ++ [y] ++ (xs.take (i + 1) ++ xs.drop i ++ xs.drop (i + 1 + (xs.drop i).length)).drop (i + [y].length)) = xs.take i ++ y :: xs.drop i := by
  have h1 : (xs.take (i + 1)).length = i + 1 := by rw [List.length_take]; omega
  rw [List.drop_of_length_le (l := xs) (i := i + 1 + (xs.drop i).length) (by rw [List.length_drop]; omega), List.append_nil]
  rw [List.take_append_of_le_length (by omega), List.take_take, Nat.min_eq_left (by omega)]
  rw [show i + [y].length = (xs.take (i + 1)).length by rw [h1]; rfl, List.drop_left]
  simp
theorem ins2 (xs : List Vw) (y z : Vw) (i : Nat) (hi : i < xs.length) : ((xs.take i ++ List.replicate (xs.length + 1 - i) z).take i ++ [y] ++ (xs.take i ++ List.replicate (xs.length + 1 - i) z).drop (i + [y].length)) = xs.take i ++ [y] ++ List.replicate (xs.length - i) z := by
  have h1 : (xs.take i).length = i := by rw [List.length_take]; omega
  rw [List.take_append_of_le_length (by omega), List.take_take, Nat.min_self, List.drop_append, h1, List.drop_of_length_le (by rw [h1]; omega)]
  simp only [List.length_singleton, List.nil_append, List.drop_replicate]
  congr 2; omega
theorem ins3 (xs : List Vw) (y z : Vw) (i : Nat) (hi : i < xs.length) : ((xs.take i ++ [y] ++ List.replicate (xs.length - i) z).take (i + 1) ++ xs.drop i ++ (xs.take i ++ [y] ++ List.replicate (xs.length - i) z).drop (i + 1 + (xs.drop i).length)) = xs.take i ++ y :: xs.drop i := by
  have h1 : (xs.take i ++ [y]).length = i + 1 := by rw [List.length_append, List.length_take]; simp; omega
  rw [List.take_append_of_le_length (by omega), List.take_of_length_le (l := xs.take i ++ [y]) (by omega), List.drop_of_length_le (i := i + 1 + (xs.drop i).length)]
  · simp
  · rw [List.length_append, h1, List.length_replicate, List.length_drop]; omega
theorem overlap_spec {g : Gl} {D : Dict} {q Z : MList} {w : World} {b b1 o la ca c l : Nat} {y : Vw} {xs : List Vw} (hO : VO (.slice (some ⟨b, 0, none⟩) l c) xs q) (hp : 0 < xs.length) (hs : St g w D (q ++ ((b1, Obj.cells (Vw.cells y).toArray 72 (0, 0)) :: Z))) :
    (callFunc 122 [Value.slice (some ⟨b1, 0, none⟩) 1 1, .slice (some ⟨b, o, none⟩) la ca].toArray).run Tryz.prog w = .ok (.value (.bool false)) w := by
  obtain ⟨b', c', cur, e1, h2, h3, h4, h5, h6⟩ := hO.blk hp
  injection e1 with e1 e2 e3
  injection e1 with e1
  injection e1 with e4 _
  subst e4; subst e3; subst h2
  have hb := hs.mt (b, _) (.head _)
  have hb1 := hs.mt (b1, _) (.tail _ (.head _))
  have hne : b1 ≠ b := by
    have := hs.nd
    simp only [List.singleton_append, List.map_cons, List.nodup_cons, List.mem_cons, not_or] at this
    exact fun e => this.1.1 e.symm
  have h0 : cur.size ≠ 0 := by rw [h5]; omega
  have := run_callFunc_extern (P := Tryz.prog) (f := 122) (fn := Tryz.f122) (by kernel_rfl) (by kernel_rfl) (by kernel_rfl) (by kernel_rfl) (e := Extern.SlicesOverlaps.overlaps #[24, 24] #[4]) (by kernel_rfl) [Value.slice (some ⟨b1, 0, none⟩) 1 1, .slice (some ⟨b, o, none⟩) la ca].toArray w
  rw [this, overlaps_apart Tryz.underlying24 Tryz.sizeOf72 hne hb1 hb h0]
  rfl
theorem insert_spec {g : Gl} {D : Dict} {q Z : MList} {v : Value} {xs : List Vw} {b1 : Nat} (y : Vw) (i : Nat) (hn : xs.length ≤ 1000) (hi : i ≤ xs.length) (hO : VO v xs q) :
    Spec Tryz.prog g 98 [v, .int .i64 (i : Int), .slice (some ⟨b1, 0, none⟩) 1 1] D (q ++ ((b1, Obj.cells (Vw.cells y).toArray 72 (0, 0)) :: Z)) (fun u D' M' => D' = D ∧ ∃ q', VO u (xs.take i ++ y :: xs.drop i) q' ∧ M' = q' ++ Z) := by
  obtain ⟨A, c, rfl, hl0⟩ := hO.form
  have hmem : (b1, Obj.cells (Vw.cells y).toArray 72 (0, 0)) ∈ q ++ ((b1, Obj.cells (Vw.cells y).toArray 72 (0, 0)) :: Z) := List.mem_append_right _ (.head _)
  refine Spec.enter Tryz.func98 rfl Tryz.ntmps98 rfl ?_; refine R.sq ?_; refine R.rg ?_; refine R.as ?_; refine R.nl ?_; refine R.hs (e' := [(0, _), (1, _), (2, _)]) ?_; refine R.sq ?_; refine R.rg ?_; refine R.mv ?_; refine R.mv ?_; refine R.cutV i Tryz.runUnderlying24 Tryz.sizeOf72 (fun _ => ?_); refine R.nl ?_; refine R.hs (e' := [(0, _), (1, _), (2, _)]) ?_; refine R.sq ?_; refine R.rg ?_; refine R.mv ?_; refine R.ln Tryz.runUnderlying24 ?_; refine R.as ?_; refine R.nl ?_; refine R.hs (e' := [(0, _), (1, _), (2, _), (7, _)]) ?_; refine R.sq ?_; refine R.sq ?_; refine R.rg ?_; refine R.mv ?_; refine R.cm ?_; refine R.nl ?_; refine R.hs (e' := [(0, _), (1, _), (2, _), (7, _), (16, _)]) ?_; refine R.cd (fun zc1 => ?_) (fun zc1 => ?_)
  ·
   simp at zc1 
  ·refine Run.skip ?_; refine R.sq ?_; refine R.rg ?_; refine R.mv ?_; refine R.ln Tryz.runUnderlying24 ?_; refine R.as ?_; refine R.nl ?_; refine R.hs (e' := [(0, _), (1, _), (2, _), (7, _), (8, _)]) ?_; refine R.sq ?_; refine R.sq ?_; refine R.rg ?_; refine R.mv ?_; refine R.mv ?_; refine R.cm ?_; refine R.nl ?_; refine R.hs (e' := [(0, _), (1, _), (2, _), (7, _), (8, _), (22, _)]) ?_; refine R.cd (fun zc2 => ?_) (fun zc2 => ?_)
   ·
    have hin : i = xs.length := by simp at zc2; omega
    refine R.sq ?_; refine R.rg ?_; refine R.mv ?_; refine R.mv ?_; refine R.ap Tryz.underlying24 info72 (hO) (List.Perm.refl _) (Src.lit hmem rfl) (by omega) (Vw.ones y) ?_; intro v' q' hO'
    have hO2 : VO v' (xs ++ [y]) q' := OL.snoc hO' rfl
    refine R.as ?_; refine R.nl ?_; refine R.hs (e' := [(6, _)]) ?_
    first
    | (refine Run.st (fun w hs => hs.dropMid (a := [_])) (R.rk (RV.t .nil) 0 ⟨rfl, q', ?_, rfl⟩)
       have e1 : xs.take i ++ y :: xs.drop i = xs ++ [y] := by rw [hin, List.take_length, List.drop_length]
       rw [e1]; exact hO2)
    | exact Run.st (fun w hs => (hs.dropMid (a := q)).dropMid (a := [_])) (R.rk (RV.t .nil) 0 ⟨rfl, q4, hO4, rfl⟩)
    | exact Run.st (fun w hs => hs.dropMid (a := [_])) (R.rk (RV.t .nil) 0 ⟨rfl, q5, hO5, rfl⟩)
   ·
    have hlt : i < xs.length := by simp at zc2; omega
    obtain ⟨b, cc, cur, hvc, hq, hcap, hcm, _, _⟩ := hO.blk (by omega)
    injection hvc with e1 _ e3
    subst e1; subst e3
    clear hq
    refine Run.skip ?_; refine R.sq ?_; refine R.sq ?_; refine R.rg ?_; refine R.mv ?_; refine R.mv ?_; refine R.ad ?_; refine R.mv ?_; refine R.cap Tryz.runUnderlying24 ?_; refine R.cm ?_; refine R.nl ?_; refine R.hs (e' := [(0, _), (1, _), (2, _), (7, _), (8, _), (31, _)]) ?_; refine R.cd (fun zc3 => ?_) (fun zc3 => ?_)
    ·
     have hgr : c < xs.length + 1 := by simp at zc3; omega
     refine R.sq ?_; refine R.rg ?_; refine R.mv ?_; refine R.mv ?_; refine R.cutHi i Tryz.runUnderlying24 Tryz.sizeOf72 ?_; refine R.mv ?_; refine R.mv ?_; refine R.ad ?_; refine R.mv ?_; refine R.sb ?_; refine R.apZero (zx := z0V) i (xs.length + 1 - i) _ Tryz.underlying24 Tryz.underlying3 info72 hO Vw.len (by omega) (by omega) (by omega) (by omega) (by omega) (hv := rfl) (hx := rfl) (fun b2 c2 q2 hne hc2 hO2 => ?_)
     have e0 : i + (xs.length + 1 - i) = xs.length + 1 := by omega
     rw [e0] at hO2 hc2 ⊢
     refine R.as ?_; refine R.nl ?_; refine R.hs (e' := [(0, _), (1, _), (2, _), (7, _), (9, _)]) ?_; refine R.sq ?_; refine R.rg ?_; refine R.mv ?_; refine R.mv ?_; refine R.cutLo i Tryz.runUnderlying24 Tryz.sizeOf72 ?_; refine R.mv ?_; refine R.cpy [y] i Tryz.underlying24 (by kernel_rfl) hO2 Vw.len (Cs.plus (Cs.plus (one_cs (.head _)))) (by first | omega | (simp <;> omega)) Vw.ones rfl (by first | omega | (simp <;> omega)) (by omega) rfl (by first | omega | (simp <;> omega)) (hx := rfl) (hy := rfl) (fun q3 hO3 => ?_)
     rw [ins2 xs y _ i hlt] at hO3
     rw [show max (xs.take i ++ List.replicate (xs.length + 1 - i) z0V).length (i + [y].length) = xs.length + 1 by simp <;> omega] at hO3
     refine R.nl ?_; refine R.hs (e' := [(0, _), (1, _), (7, _), (9, _)]) ?_; refine R.sq ?_; refine Run.drawC Grow.eq 8 [(0, _), (1, _), (7, _), (9, _)] mix (by kernel_rfl) (by repeat (first | exact trivial | refine ⟨rfl, ?_⟩)) ?_; apply TC.val []; exact rfl; kernel_rfl
     ·rintro _ rfl ; refine R.mv ?_; refine R.nl ?_; exact Run.loc rfl rfl rfl
     apply TC.val []; exact rfl; kernel_rfl
     ·rintro _ rfl ; refine R.mv ?_; refine R.nl ?_; exact Run.loc rfl rfl rfl
     apply TC.val []; exact rfl; kernel_rfl
     ·rintro _ rfl ; refine R.mv ?_; refine R.nl ?_; exact Run.loc rfl rfl rfl
     apply TC.val [1, 0]; exact rfl; kernel_rfl
     ·rintro _ rfl _ rfl _ rfl; refine R.ad ?_; refine R.nl ?_; exact Run.loc rfl rfl rfl
     apply TC.val [3, 0]; exact rfl; kernel_rfl
     ·rintro _ rfl _ rfl _ rfl; refine R.cutLo (i + 1) Tryz.runUnderlying24 Tryz.sizeOf72 ?_; refine R.nl ?_; exact Run.loc rfl rfl rfl
     apply TC.val []; exact rfl; kernel_rfl
     ·rintro _ rfl ; refine R.mv ?_; refine R.nl ?_; exact Run.loc rfl rfl rfl
     apply TC.val []; exact rfl; kernel_rfl
     ·rintro _ rfl ; refine R.mv ?_; refine R.nl ?_; exact Run.loc rfl rfl rfl
     apply TC.val [1, 0]; exact rfl; kernel_rfl
     ·rintro _ rfl _ rfl _ rfl; refine R.cutLo i Tryz.runUnderlying24 Tryz.sizeOf72 ?_; refine R.nl ?_; exact Run.loc rfl rfl rfl
     refine TC.fin (by rfl) ?_; rintro _ rfl _ rfl _ rfl _ rfl _ rfl _ rfl _ rfl _ rfl _ rfl; refine R.cpy (xs.drop i) (i + 1) Tryz.underlying24 (by kernel_rfl) hO3 Vw.len (Cs.plus (Cs.drop Vw.len i (hO.cs (by omega)) (by omega))) (by first | omega | (simp <;> omega)) Vw.ones rfl (by first | omega | (simp <;> omega)) (by omega) rfl (by first | omega | (simp <;> omega)) (hx := rfl) (hy := rfl) (fun q4 hO4 => ?_)
     have e4 : max (xs.take i ++ [y] ++ List.replicate (xs.length - i) z0V).length (i + 1 + (xs.drop i).length) = xs.length + 1 := by
       simp only [List.length_append, List.length_take, List.length_drop, List.length_singleton, List.length_replicate]; omega
     rw [ins3 xs y _ i hlt, e4] at hO4
     refine R.nl ?_; refine R.hs (e' := [(9, _)]) ?_; refine R.sq ?_; refine R.rg ?_; refine R.mv ?_; refine R.as ?_; refine R.nl ?_; refine R.hs (e' := [(6, _)]) ?_
     first
     | (refine Run.st (fun w hs => hs.dropMid (a := [_])) (R.rk (RV.t .nil) 0 ⟨rfl, q', ?_, rfl⟩)
        have e1 : xs.take i ++ y :: xs.drop i = xs ++ [y] := by rw [hin, List.take_length, List.drop_length]
        rw [e1]; exact hO2)
     | exact Run.st (fun w hs => (hs.dropMid (a := q)).dropMid (a := [_])) (R.rk (RV.t .nil) 0 ⟨rfl, q4, hO4, rfl⟩)
     | exact Run.st (fun w hs => hs.dropMid (a := [_])) (R.rk (RV.t .nil) 0 ⟨rfl, q5, hO5, rfl⟩)
    ·
     have hgr : xs.length + 1 ≤ c := by simp at zc3; omega
     refine Run.skip ?_; refine R.sq ?_; refine R.rg ?_; refine R.mv ?_; refine R.mv ?_; refine R.mv ?_; refine R.ad ?_; refine R.cutHi (xs.length + 1) Tryz.runUnderlying24 Tryz.sizeOf72 ?_; refine R.as ?_; refine R.nl ?_; refine R.hs (e' := [(0, _), (1, _), (2, _), (7, _), (8, _)]) ?_; refine R.sq ?_; refine R.sq ?_; refine R.rg ?_; refine R.mv ?_; refine R.mv ?_; refine R.mv ?_; refine R.mv ?_; refine R.ad ?_; refine R.cutLo (i + 1) Tryz.runUnderlying24 Tryz.sizeOf72 ?_; refine R.cx (fun w hs => overlap_spec hO (by omega) hs) ?_; refine R.nt ?_; refine R.nl ?_; refine R.hs (e' := [(0, _), (1, _), (2, _), (7, _), (8, _), (68, _)]) ?_; refine R.cT (rfl) ?_; refine R.sq ?_; refine Run.drawC Grow.eq 8 [(0, _), (1, _), (2, _), (7, _)] mix (by kernel_rfl) (by repeat (first | exact trivial | refine ⟨rfl, ?_⟩)) ?_; apply TC.val []; exact rfl; kernel_rfl
     ·rintro _ rfl ; refine R.mv ?_; refine R.nl ?_; exact Run.loc rfl rfl rfl
     apply TC.val []; exact rfl; kernel_rfl
     ·rintro _ rfl ; refine R.mv ?_; refine R.nl ?_; exact Run.loc rfl rfl rfl
     apply TC.val []; exact rfl; kernel_rfl
     ·rintro _ rfl ; refine R.mv ?_; refine R.nl ?_; exact Run.loc rfl rfl rfl
     apply TC.val [1, 0]; exact rfl; kernel_rfl
     ·rintro _ rfl _ rfl _ rfl; refine R.ad ?_; refine R.nl ?_; exact Run.loc rfl rfl rfl
     apply TC.val [3, 0]; exact rfl; kernel_rfl
     ·rintro _ rfl _ rfl _ rfl; refine R.cutLo (i + 1) Tryz.runUnderlying24 Tryz.sizeOf72 ?_; refine R.nl ?_; exact Run.loc rfl rfl rfl
     apply TC.val []; exact rfl; kernel_rfl
     ·rintro _ rfl ; refine R.mv ?_; refine R.nl ?_; exact Run.loc rfl rfl rfl
     apply TC.val []; exact rfl; kernel_rfl
     ·rintro _ rfl ; refine R.mv ?_; refine R.nl ?_; exact Run.loc rfl rfl rfl
     apply TC.val [1, 0]; exact rfl; kernel_rfl
     ·rintro _ rfl _ rfl _ rfl; refine R.cutLo i Tryz.runUnderlying24 Tryz.sizeOf72 ?_; refine R.nl ?_; exact Run.loc rfl rfl rfl
     refine TC.fin (by rfl) ?_; rintro _ rfl _ rfl _ rfl _ rfl _ rfl _ rfl _ rfl _ rfl _ rfl; refine R.cpy (xs.drop i) (i + 1) Tryz.underlying24 (by kernel_rfl) hO Vw.len (Cs.drop Vw.len i (hO.cs (by omega)) (by omega)) (by first | omega | (simp <;> omega)) Vw.ones rfl (by first | omega | (simp <;> omega)) (by omega) rfl (by first | omega | (simp <;> omega)) (hx := rfl) (hy := rfl) (fun q4 hO4 => ?_); refine R.nl ?_; refine R.hs (e' := [(0, _), (1, _), (2, _)]) ?_; refine R.sq ?_; refine R.rg ?_; refine R.mv ?_; refine R.mv ?_; refine R.cutLo i Tryz.runUnderlying24 Tryz.sizeOf72 ?_; refine R.mv ?_; refine R.cpy [y] i Tryz.underlying24 (by kernel_rfl) hO4 Vw.len (Cs.plus (one_cs (.head _))) (by first | omega | (simp <;> omega)) Vw.ones rfl (by first | omega | (simp <;> omega)) (by omega) rfl (by first | omega | (simp <;> omega)) (hx := rfl) (hy := rfl) (fun q5 hO5 => ?_)
     have e5 : max (xs.take (i + 1) ++ xs.drop i ++ xs.drop (i + 1 + (xs.drop i).length)).length (i + [y].length) = xs.length + 1 := by
       simp only [List.length_append, List.length_take, List.length_drop, List.length_singleton]; omega
     rw [ins1 xs y i hlt, e5] at hO5
     refine R.nl ?_; refine R.hs (e' := [(0, _)]) ?_; refine R.sq ?_; refine R.rg ?_; refine R.mv ?_; refine R.as ?_; refine R.nl ?_; refine R.hs (e' := [(6, _)]) ?_
     first
     | (refine Run.st (fun w hs => hs.dropMid (a := [_])) (R.rk (RV.t .nil) 0 ⟨rfl, q', ?_, rfl⟩)
        have e1 : xs.take i ++ y :: xs.drop i = xs ++ [y] := by rw [hin, List.take_length, List.drop_length]
        rw [e1]; exact hO2)
     | exact Run.st (fun w hs => (hs.dropMid (a := q)).dropMid (a := [_])) (R.rk (RV.t .nil) 0 ⟨rfl, q4, hO4, rfl⟩)
     | exact Run.st (fun w hs => hs.dropMid (a := [_])) (R.rk (RV.t .nil) 0 ⟨rfl, q5, hO5, rfl⟩)
end Go.Proofs.YtgdpjpmjcpieiaaGreat
