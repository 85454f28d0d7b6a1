/- The levels that are told, rising, each once: the document's answer. No condition. -/
import Derived.Test.YtgdpjpmjcpieiaaL2
import Derived.Test.YtgdpjpmjcpieiaaLvP
namespace Go.Proofs.Ytgdpjpmjcpieiaa
open Go
set_option linter.unusedVariables false
set_option linter.unusedSimpArgs false
set_option maxRecDepth 100000
set_option maxHeartbeats 0
abbrev Lvs (D : Dict) (v : Value) (xs : List Lv) : Prop := Lst D 3 Lv.cells v xs
abbrev LR (v : Value) (xs : List Lv) (q : MList) : Prop := OL 3 Lv.cells 42 v xs q
theorem Lv.len (o : Lv) : o.cells.length = 3 := rfl
theorem Lv.ones (x : Lv) : ∀ u ∈ x.cells, u.oneCell' = true := Go.Proofs.Ytgdpjpmjcpieiaa.ones (xs := x.cells) rfl
theorem levelsV_succ {xs : List Vw} {i : Nat} {x : Vw} (h : xs[i]? = some x) : levelsV (xs.take (i + 1)) = levelStep (levelsV (xs.take i)) x := by
  rw [take_succ' h]; simp [levelsV, List.foldl_append]
theorem levelsV_no {xs : List Vw} {i : Nat} {x : Vw} (h : xs[i]? = some x) (ht : toldH x.h = false) : levelsV (xs.take (i + 1)) = levelsV (xs.take i) := by
  rw [levelsV_succ h]; simp [levelStep, ht]
theorem levelsV_yes {xs : List Vw} {i : Nat} {x : Vw} (h : xs[i]? = some x) (ht : toldH x.h = true) : levelsV (xs.take (i + 1)) = insL (lvlH x.h) (levelsV (xs.take i)) := by
  rw [levelsV_succ h]; simp [levelStep, ht]
theorem stepL_take {v o : Lv} {out : List Lv} {k : Nat} {p : List Lv × Bool} (h : out[k]? = some o) (hp : p = (out.take k).foldl (stepL v) ([], false)) : (out.take (k + 1)).foldl (stepL v) ([], false) = stepL v p o := by
  rw [take_succ' h, List.foldl_append, ← hp]; rfl
theorem refLevels_spec {g : Gl} {D : Dict} {M : MList} {a : Value} {xs : List Vw} (hn : xs.length ≤ 1000) (ha : Vws D a xs) :
    Gets Try.prog g 47 [a] D M (fun v D => Lvs D v (levelsV xs)) := by
  have hla := ha.form.choose_spec.choose_spec.2.2
  refine Gets.enter Try.func47 rfl Try.ntmps47 ?_
  refine R.sq ?_
  refine R.rg ?_
  refine R.as ?_
  refine R.nl ?_
  refine R.hs (e' := [(0, _)]) ?_
  refine R.sq ?_
  refine R.rg ?_
  refine R.as ?_
  refine R.nl ?_
  refine R.hs (e' := [(0, _), (3, _)]) ?_
  refine R.sq ?_
  refine R.sq ?_
  refine R.rg ?_
  refine R.as ?_
  refine R.nl ?_
  refine R.hs (e' := [(0, _), (3, _), (4, _)]) ?_
  refine Run.block ?_
  refine Run.loop (ι := Nat × Value × MList) [(0, _)] (fun p => [(4, .int .i64 (p.1 : Int)), (3, p.2.1)]) (fun _ => D) (fun p => p.2.2 ++ M) (fun p => p.1 ≤ xs.length ∧ LR p.2.1 (levelsV (xs.take p.1)) p.2.2) (fun p => xs.length - p.1) ((0, .slice none 0 0, [])) (by repeat (first | exact trivial | refine ⟨rfl, ?_⟩)) ?h0 (by repeat (first | exact trivial | refine ⟨rfl, ?_⟩)) (fun w hs => hs) ?_
  case h0 => exact ⟨Nat.zero_le _, OL.nil⟩
  rintro ⟨i, v, q0⟩ ⟨hi, hO⟩
  simp only at hi hO
  refine R.sq ?_
  refine R.sq ?_
  refine R.rg ?_
  refine R.mv ?_
  refine R.mv ?_
  refine R.ll (ha) Try.runUnderlying24 ?_
  refine R.cm ?_
  refine R.nl ?_
  refine R.hs (e' := [(0, _), (3, _), (4, _), (12, _)]) ?_
  refine R.cd (fun zc1 => ?_) (fun zc1 => ?_)
  ·
    have hlt : i < xs.length := by simp at zc1; omega
    obtain ⟨x, hgx⟩ := get_of_lt hlt
    obtain ⟨b1, o1, hI1, hc1⟩ := ha.at Vw.len hgx
    have hlen := levelsV_len (xs.take i)
    rw [List.length_take] at hlen
    obtain ⟨A, c, hvf, hl1⟩ := hO.form
    refine Run.skip ?_
    refine R.sq ?_
    refine Run.block ?_
    refine R.sq ?_
    refine R.sq ?_
    refine R.rg ?_
    refine R.mv ?_
    refine R.mv ?_
    refine R.ix (hI1) Try.runUnderlying24 Try.sizeOf36 ?_
    refine R.fa Try.runUnderlying36 Try.sizeOf23 ?_
    refine R.lAD 6 Try.isAgg23 Try.sizeOf23 ?_
    refine R.cg Try.call50 (refTold_spec _) ?_
    refine R.nt ?_
    refine R.nl ?_
    refine R.hs (e' := [(0, _), (3, _), (4, _), (21, _)]) ?_
    refine R.cd (fun zc2 => ?_) (fun zc2 => ?_)
    ·
      have hs1 : levelsV (xs.take (i + 1)) = levelsV (xs.take i) := levelsV_no hgx (by simpa using zc2)
      refine Run.exit rfl ?_
      refine R.rg ?_
      refine R.mv ?_
      refine R.ad ?_
      refine R.as ?_
      refine R.nl ?_
      refine R.hs (e' := [(0, _), (3, _), (4, _)]) ?_
      first | exact Run.again (i + 1, v', q') ⟨by simp <;> omega, by rw [hs1]; exact hW⟩ (by simp <;> omega) (by refine ⟨rfl, rfl, ?_⟩; repeat (first | exact trivial | refine ⟨rfl, ?_⟩)) (fun w hs => hs.dropMid (a := _ :: q0)) | exact Run.again (i + 1, r, q3) ⟨by simp <;> omega, by rw [hs1]; exact hW⟩ (by simp <;> omega) (by refine ⟨rfl, rfl, ?_⟩; repeat (first | exact trivial | refine ⟨rfl, ?_⟩)) (fun w hs => hs.dropMid (a := _ :: q0)) | exact Run.again (i + 1, v, q0) ⟨by simp <;> omega, by rw [hs1]; exact hO⟩ (by simp <;> omega) (by refine ⟨rfl, rfl, ?_⟩; repeat (first | exact trivial | refine ⟨rfl, ?_⟩)) (fun w hs => hs)
    ·
      have hs1 : levelsV (xs.take (i + 1)) = insL (lvlH x.h) (levelsV (xs.take i)) := levelsV_yes hgx (by simpa using zc2)
      subst hvf
      generalize levelsV (xs.take i) = out at hO hlen hl1 hs1
      refine Run.skip ?_
      refine R.sq ?_
      refine R.rg ?_
      refine R.mv ?_
      refine R.mv ?_
      refine R.ix (hI1) Try.runUnderlying24 Try.sizeOf36 ?_
      refine R.fa Try.runUnderlying36 Try.sizeOf23 ?_
      refine R.lAD 6 Try.isAgg23 Try.sizeOf23 ?_
      refine R.cg Try.call31 (refLvl_spec _) ?_
      refine R.alA Try.zeroValue42 (fun zbv hzbv => ?_)
      refine R.st Try.sizeOf42 ?_
      refine R.nl ?_
      generalize hlv : lvlH x.h = lv at hs1
      refine R.hs (e' := [(0, _), (3, _), (4, _), (5, _)]) ?_
      refine R.sq ?_
      refine R.rg ?_
      refine R.as ?_
      refine R.nl ?_
      refine R.hs (e' := [(0, _), (3, _), (4, _), (5, _), (6, _)]) ?_
      refine R.sq ?_
      refine R.rg ?_
      refine R.as ?_
      refine R.nl ?_
      refine R.hs (e' := [(0, _), (3, _), (4, _), (5, _), (6, _), (7, _)]) ?_
      refine R.sq ?_
      refine R.sq ?_
      refine R.rg ?_
      refine R.as ?_
      refine R.nl ?_
      refine R.hs (e' := [(0, _), (3, _), (4, _), (5, _), (6, _), (7, _), (8, _)]) ?_
      refine Run.block ?_
      refine Run.loop (ι := Nat × (List Lv × Bool) × Value × MList) [(0, _), (3, _), (4, _), (5, _)] (fun p => [(8, .int .i64 (p.1 : Int)), (7, .bool p.2.1.2), (6, p.2.2.1)]) (fun _ => D) (fun p => p.2.2.2 ++ ((zbv, .cells (Lv.cells lv).toArray 42 (0, 0)) :: (q0 ++ M))) (fun p => p.1 ≤ out.length ∧ p.2.1 = (out.take p.1).foldl (stepL lv) ([], false) ∧ LR p.2.2.1 p.2.1.1 p.2.2.2) (fun p => out.length - p.1) ((0, ([], false), .slice none 0 0, [])) (by repeat (first | exact trivial | refine ⟨rfl, ?_⟩)) ?h0 (by repeat (first | exact trivial | refine ⟨rfl, ?_⟩)) (fun w hs => hs) ?_
      case h0 => exact ⟨Nat.zero_le _, rfl, OL.nil⟩
      rintro ⟨k, ⟨m, dn⟩, r, q3⟩ ⟨hk, hp, hR⟩
      simp only at hk hp hR
      have hml : m.length ≤ 2 * k := by have := stepL_len lv (out.take k) ([], false); rw [← hp, List.length_take] at this; simp at this; omega
      refine R.sq ?_
      refine R.sq ?_
      refine R.rg ?_
      refine R.mv ?_
      refine R.mv ?_
      refine R.ln Try.runUnderlying47 ?_
      refine R.cm ?_
      refine R.nl ?_
      refine R.hs (e' := [(0, _), (3, _), (4, _), (5, _), (6, _), (7, _), (8, _), (31, _)]) ?_
      refine R.cd (fun zc4 => ?_) (fun zc4 => ?_)
      ·
        have hltk : k < out.length := by simp at zc4; omega
        obtain ⟨y, hgy⟩ := get_of_lt hltk
        obtain ⟨b2, o2, hI2, hc2⟩ := hO.at (D := D) (M := q3 ++ ((zbv, .cells (Lv.cells lv).toArray 42 (0, 0)) :: (q0 ++ M))) (fun p hp => List.mem_append_right _ (.tail _ (List.mem_append_left _ hp))) Lv.len hgy
        refine Run.skip ?_
        refine R.sq ?_
        refine Run.block ?_
        refine R.sq ?_
        refine R.sq ?_
        rcases Bool.eq_false_or_eq_true (!dn) with zg5 | zg5
        ·
          refine Run.drawC Grow.eq 8 [(0, _), (3, _), (4, _), (5, _), (6, _), (7, _), (8, _)] mix (by kernel_rfl) (by repeat (first | exact trivial | refine ⟨rfl, ?_⟩)) ?_
          apply TC.val []
          · exact rfl
          · kernel_rfl
          ·
            rintro _ rfl 
            refine R.mv ?_
            refine R.nl ?_
            exact Run.loc rfl rfl rfl
          apply TC.val [0]
          · exact rfl
          · kernel_rfl
          ·
            rintro _ rfl _ rfl
            refine R.nt ?_
            refine R.nl ?_
            exact Run.loc rfl rfl rfl
          apply TC.val [0]
          · exact rfl
          · kernel_rfl
          ·
            rintro _ rfl _ rfl
            refine R.mv ?_
            refine R.nl ?_
            exact Run.loc rfl rfl rfl
          apply TC.val [0]
          · exact rfl
          · kernel_rfl
          ·
            rintro _ rfl _ rfl
            refine R.gY (zg5) ?_
            refine R.lA 3 Try.isAgg42 Try.sizeOf42 ?_ (hc := CsN.mkM (List.mem_append_right _ (.head _)) rfl)
            refine R.nl ?_
            exact Run.loc rfl rfl rfl
          apply TC.val [1]
          · exact rfl
          · kernel_rfl
          ·
            rintro _ rfl _ rfl
            refine R.gY (zg5) ?_
            refine R.mv ?_
            refine R.nl ?_
            exact Run.loc rfl rfl rfl
          apply TC.val [2]
          · exact rfl
          · kernel_rfl
          ·
            rintro _ rfl _ rfl
            refine R.gY (zg5) ?_
            refine R.mv ?_
            refine R.nl ?_
            exact Run.loc rfl rfl rfl
          apply TC.val [3, 1, 0]
          · exact rfl
          · kernel_rfl
          ·
            rintro _ rfl _ rfl _ rfl _ rfl
            refine R.gY (zg5) ?_
            refine R.ix (hI2) Try.runUnderlying47 Try.sizeOf42 ?_
            refine R.nl ?_
            exact Run.loc rfl rfl rfl
          apply TC.val [4, 0]
          · exact rfl
          · kernel_rfl
          ·
            rintro _ rfl _ rfl _ rfl
            refine R.gY (zg5) ?_
            refine R.lAD 3 Try.isAgg42 Try.sizeOf42 ?_
            refine R.nl ?_
            exact Run.loc rfl rfl rfl
          refine TC.fin (by rfl) ?_
          rintro _ rfl _ rfl _ rfl _ rfl _ rfl _ rfl _ rfl _ rfl _ rfl
          refine R.gY (zg5) ?_
          refine R.cg Try.call63 (refOrd_spec _ _) ?_
          refine R.gY (zg5) ?_
          refine R.cm ?_
          refine R.pT (zg5) ?_
          refine R.nl ?_
          refine R.hs (e' := [(0, _), (3, _), (4, _), (5, _), (6, _), (7, _), (8, _), (44, _)]) ?_
          refine R.cd (fun zc15 => ?_) (fun zc15 => ?_)
          ·
            refine R.sq ?_
            refine R.rg ?_
            refine R.mv ?_
            refine R.lA 3 Try.isAgg42 Try.sizeOf42 ?_ (hc := CsN.mkM (List.mem_append_right _ (.head _)) rfl)
            refine R.bs zc42 Try.runUnderlying47 Try.sizeOf42 Try.zeroValue42 (fun zb16 hzb16 => ?_)
            refine R.ap Try.underlying47 info42 (hR) (permQ (a := [_])) (Src.lit (List.mem_append_right _ (.head _)) rfl) (by omega) (Lv.ones lv) ?_
            intro v' q' hO'
            have hR2 : LR v' (m ++ [lv]) q' := OL.snoc hO' rfl
            refine R.as ?_
            refine R.nl ?_
            refine Run.st (fun w hs => hs.dropMid (a := [_])) ?_
            obtain ⟨b2, o2, hI2, hc2⟩ := hO.at (D := D) (M := q' ++ ((zbv, .cells (Lv.cells lv).toArray 42 (0, 0)) :: (q0 ++ M))) (fun p hp => List.mem_append_right _ (.tail _ (List.mem_append_left _ hp))) Lv.len hgy
            refine R.hs (e' := [(0, _), (3, _), (4, _), (5, _), (6, _), (8, _)]) ?_
            refine R.rg ?_
            refine R.as ?_
            refine R.nl ?_
            refine R.hs (e' := [(0, _), (3, _), (4, _), (5, _), (6, _), (7, _), (8, _)]) ?_
            refine R.sq ?_
            refine Run.drawC Grow.eq 5 [(0, _), (3, _), (4, _), (5, _), (6, _), (7, _), (8, _)] mix (by kernel_rfl) (by repeat (first | exact trivial | refine ⟨rfl, ?_⟩)) ?_
            apply TC.val []
            · exact rfl
            · kernel_rfl
            ·
              rintro _ rfl 
              refine R.mv ?_
              refine R.nl ?_
              exact Run.loc rfl rfl rfl
            apply TC.val []
            · exact rfl
            · kernel_rfl
            ·
              rintro _ rfl 
              refine R.mv ?_
              refine R.nl ?_
              exact Run.loc rfl rfl rfl
            apply TC.val [1, 0]
            · exact rfl
            · kernel_rfl
            ·
              rintro _ rfl _ rfl _ rfl
              refine R.ix (hI2) Try.runUnderlying47 Try.sizeOf42 ?_
              refine R.nl ?_
              exact Run.loc rfl rfl rfl
            apply TC.val [0]
            · exact rfl
            · kernel_rfl
            ·
              rintro _ rfl _ rfl
              refine R.lAD 3 Try.isAgg42 Try.sizeOf42 ?_
              refine R.nl ?_
              exact Run.loc rfl rfl rfl
            apply TC.val []
            · exact rfl
            · kernel_rfl
            ·
              rintro _ rfl 
              refine R.lA 3 Try.isAgg42 Try.sizeOf42 ?_ (hc := CsN.mkM (List.mem_append_right _ (.head _)) rfl)
              refine R.nl ?_
              exact Run.loc rfl rfl rfl
            refine TC.fin (by rfl) ?_
            rintro _ rfl _ rfl _ rfl _ rfl _ rfl _ rfl
            refine R.na Try.eqGuardType42 (eqAt42 _ _ _ _ _ _) ?_
            refine R.nl ?_
            refine R.hs (e' := [(0, _), (3, _), (4, _), (5, _), (6, _), (7, _), (8, _), (54, _)]) ?_
            refine R.cd (fun zc23 => ?_) (fun zc23 => ?_)
            ·
              have hne : y ≠ lv := by rw [ne_eq, Lv.ext']; simp at zc23; omega
              refine R.rg ?_
              refine R.mv ?_
              refine R.mv ?_
              refine R.mv ?_
              refine R.ix (hI2) Try.runUnderlying47 Try.sizeOf42 ?_
              refine R.lAD 3 Try.isAgg42 Try.sizeOf42 ?_
              refine R.bs zc42 Try.runUnderlying47 Try.sizeOf42 Try.zeroValue42 (fun zb24 hzb24 => ?_)
              refine R.ap Try.underlying47 info42 ((by first | exact hR2 | exact hR)) (permQ (a := [_])) (Src.lit (List.mem_append_right _ (.head _)) rfl) (by first | omega | (simp only [List.length_append, List.length_singleton]; omega)) (Lv.ones y) ?_
              intro v' q' hO'
              have hR3 := OL.snoc (x := y) hO' rfl
              refine R.as ?_
              refine R.nl ?_
              refine R.hs (e' := [(0, _), (3, _), (4, _), (5, _), (6, _), (7, _), (8, _)]) ?_
              refine Run.endBlock ?_
              refine R.rg ?_
              refine R.mv ?_
              refine R.ad ?_
              refine R.as ?_
              refine R.nl ?_
              refine R.hs (e' := [(0, _), (3, _), (4, _), (5, _), (6, _), (7, _), (8, _)]) ?_
              first | exact Run.again (k + 1, (m ++ [lv] ++ [y], true), v', q') ⟨by simp <;> omega, by rw [stepL_take hgy hp]; clear hp hO hR hc2 hI2 hs1; grind [stepL], hR3⟩ (by simp <;> omega) (by refine ⟨rfl, rfl, rfl, ?_⟩; repeat (first | exact trivial | refine ⟨rfl, ?_⟩)) (fun w hs => hs.dropMid (a := [_])) | exact Run.again (k + 1, (m ++ [y], dn), v', q') ⟨by simp <;> omega, by rw [stepL_take hgy hp]; clear hp hO hR hc2 hI2 hs1; grind [stepL], hR3⟩ (by simp <;> omega) (by refine ⟨rfl, rfl, rfl, ?_⟩; repeat (first | exact trivial | refine ⟨rfl, ?_⟩)) (fun w hs => hs.dropMid (a := [_])) | exact Run.again (k + 1, (m ++ [lv], true), v', q') ⟨by simp <;> omega, by rw [stepL_take hgy hp]; clear hp hO hR hc2 hI2 hs1; grind [stepL], hR2⟩ (by simp <;> omega) (by refine ⟨rfl, rfl, rfl, ?_⟩; repeat (first | exact trivial | refine ⟨rfl, ?_⟩)) (fun w hs => hs) | exact Run.again (k + 1, (m, dn), r, q3) ⟨by simp <;> omega, by rw [stepL_take hgy hp]; clear hp hO hR hc2 hI2 hs1; grind [stepL], hR⟩ (by simp <;> omega) (by refine ⟨rfl, rfl, rfl, ?_⟩; repeat (first | exact trivial | refine ⟨rfl, ?_⟩)) (fun w hs => hs)
            ·
              have hne : y = lv := by rw [Lv.ext']; simpa using zc23
              refine Run.skip ?_
              refine Run.endBlock ?_
              refine R.rg ?_
              refine R.mv ?_
              refine R.ad ?_
              refine R.as ?_
              refine R.nl ?_
              refine R.hs (e' := [(0, _), (3, _), (4, _), (5, _), (6, _), (7, _), (8, _)]) ?_
              first | exact Run.again (k + 1, (m ++ [lv] ++ [y], true), v', q') ⟨by simp <;> omega, by rw [stepL_take hgy hp]; clear hp hO hR hc2 hI2 hs1; grind [stepL], hR3⟩ (by simp <;> omega) (by refine ⟨rfl, rfl, rfl, ?_⟩; repeat (first | exact trivial | refine ⟨rfl, ?_⟩)) (fun w hs => hs.dropMid (a := [_])) | exact Run.again (k + 1, (m ++ [y], dn), v', q') ⟨by simp <;> omega, by rw [stepL_take hgy hp]; clear hp hO hR hc2 hI2 hs1; grind [stepL], hR3⟩ (by simp <;> omega) (by refine ⟨rfl, rfl, rfl, ?_⟩; repeat (first | exact trivial | refine ⟨rfl, ?_⟩)) (fun w hs => hs.dropMid (a := [_])) | exact Run.again (k + 1, (m ++ [lv], true), v', q') ⟨by simp <;> omega, by rw [stepL_take hgy hp]; clear hp hO hR hc2 hI2 hs1; grind [stepL], hR2⟩ (by simp <;> omega) (by refine ⟨rfl, rfl, rfl, ?_⟩; repeat (first | exact trivial | refine ⟨rfl, ?_⟩)) (fun w hs => hs) | exact Run.again (k + 1, (m, dn), r, q3) ⟨by simp <;> omega, by rw [stepL_take hgy hp]; clear hp hO hR hc2 hI2 hs1; grind [stepL], hR⟩ (by simp <;> omega) (by refine ⟨rfl, rfl, rfl, ?_⟩; repeat (first | exact trivial | refine ⟨rfl, ?_⟩)) (fun w hs => hs)
          ·
            refine Run.skip ?_
            refine R.sq ?_
            refine Run.drawC Grow.eq 5 [(0, _), (3, _), (4, _), (5, _), (6, _), (7, _), (8, _)] mix (by kernel_rfl) (by repeat (first | exact trivial | refine ⟨rfl, ?_⟩)) ?_
            apply TC.val []
            · exact rfl
            · kernel_rfl
            ·
              rintro _ rfl 
              refine R.mv ?_
              refine R.nl ?_
              exact Run.loc rfl rfl rfl
            apply TC.val []
            · exact rfl
            · kernel_rfl
            ·
              rintro _ rfl 
              refine R.mv ?_
              refine R.nl ?_
              exact Run.loc rfl rfl rfl
            apply TC.val [1, 0]
            · exact rfl
            · kernel_rfl
            ·
              rintro _ rfl _ rfl _ rfl
              refine R.ix (hI2) Try.runUnderlying47 Try.sizeOf42 ?_
              refine R.nl ?_
              exact Run.loc rfl rfl rfl
            apply TC.val [0]
            · exact rfl
            · kernel_rfl
            ·
              rintro _ rfl _ rfl
              refine R.lAD 3 Try.isAgg42 Try.sizeOf42 ?_
              refine R.nl ?_
              exact Run.loc rfl rfl rfl
            apply TC.val []
            · exact rfl
            · kernel_rfl
            ·
              rintro _ rfl 
              refine R.lA 3 Try.isAgg42 Try.sizeOf42 ?_ (hc := CsN.mkM (List.mem_append_right _ (.head _)) rfl)
              refine R.nl ?_
              exact Run.loc rfl rfl rfl
            refine TC.fin (by rfl) ?_
            rintro _ rfl _ rfl _ rfl _ rfl _ rfl _ rfl
            refine R.na Try.eqGuardType42 (eqAt42 _ _ _ _ _ _) ?_
            refine R.nl ?_
            refine R.hs (e' := [(0, _), (3, _), (4, _), (5, _), (6, _), (7, _), (8, _), (54, _)]) ?_
            refine R.cd (fun zc31 => ?_) (fun zc31 => ?_)
            ·
              have hne : y ≠ lv := by rw [ne_eq, Lv.ext']; simp at zc31; omega
              refine R.rg ?_
              refine R.mv ?_
              refine R.mv ?_
              refine R.mv ?_
              refine R.ix (hI2) Try.runUnderlying47 Try.sizeOf42 ?_
              refine R.lAD 3 Try.isAgg42 Try.sizeOf42 ?_
              refine R.bs zc42 Try.runUnderlying47 Try.sizeOf42 Try.zeroValue42 (fun zb32 hzb32 => ?_)
              refine R.ap Try.underlying47 info42 ((by first | exact hR2 | exact hR)) (permQ (a := [_])) (Src.lit (List.mem_append_right _ (.head _)) rfl) (by first | omega | (simp only [List.length_append, List.length_singleton]; omega)) (Lv.ones y) ?_
              intro v' q' hO'
              have hR3 := OL.snoc (x := y) hO' rfl
              refine R.as ?_
              refine R.nl ?_
              refine R.hs (e' := [(0, _), (3, _), (4, _), (5, _), (6, _), (7, _), (8, _)]) ?_
              refine Run.endBlock ?_
              refine R.rg ?_
              refine R.mv ?_
              refine R.ad ?_
              refine R.as ?_
              refine R.nl ?_
              refine R.hs (e' := [(0, _), (3, _), (4, _), (5, _), (6, _), (7, _), (8, _)]) ?_
              first | exact Run.again (k + 1, (m ++ [lv] ++ [y], true), v', q') ⟨by simp <;> omega, by rw [stepL_take hgy hp]; clear hp hO hR hc2 hI2 hs1; grind [stepL], hR3⟩ (by simp <;> omega) (by refine ⟨rfl, rfl, rfl, ?_⟩; repeat (first | exact trivial | refine ⟨rfl, ?_⟩)) (fun w hs => hs.dropMid (a := [_])) | exact Run.again (k + 1, (m ++ [y], dn), v', q') ⟨by simp <;> omega, by rw [stepL_take hgy hp]; clear hp hO hR hc2 hI2 hs1; grind [stepL], hR3⟩ (by simp <;> omega) (by refine ⟨rfl, rfl, rfl, ?_⟩; repeat (first | exact trivial | refine ⟨rfl, ?_⟩)) (fun w hs => hs.dropMid (a := [_])) | exact Run.again (k + 1, (m ++ [lv], true), v', q') ⟨by simp <;> omega, by rw [stepL_take hgy hp]; clear hp hO hR hc2 hI2 hs1; grind [stepL], hR2⟩ (by simp <;> omega) (by refine ⟨rfl, rfl, rfl, ?_⟩; repeat (first | exact trivial | refine ⟨rfl, ?_⟩)) (fun w hs => hs) | exact Run.again (k + 1, (m, dn), r, q3) ⟨by simp <;> omega, by rw [stepL_take hgy hp]; clear hp hO hR hc2 hI2 hs1; grind [stepL], hR⟩ (by simp <;> omega) (by refine ⟨rfl, rfl, rfl, ?_⟩; repeat (first | exact trivial | refine ⟨rfl, ?_⟩)) (fun w hs => hs)
            ·
              have hne : y = lv := by rw [Lv.ext']; simpa using zc31
              refine Run.skip ?_
              refine Run.endBlock ?_
              refine R.rg ?_
              refine R.mv ?_
              refine R.ad ?_
              refine R.as ?_
              refine R.nl ?_
              refine R.hs (e' := [(0, _), (3, _), (4, _), (5, _), (6, _), (7, _), (8, _)]) ?_
              first | exact Run.again (k + 1, (m ++ [lv] ++ [y], true), v', q') ⟨by simp <;> omega, by rw [stepL_take hgy hp]; clear hp hO hR hc2 hI2 hs1; grind [stepL], hR3⟩ (by simp <;> omega) (by refine ⟨rfl, rfl, rfl, ?_⟩; repeat (first | exact trivial | refine ⟨rfl, ?_⟩)) (fun w hs => hs.dropMid (a := [_])) | exact Run.again (k + 1, (m ++ [y], dn), v', q') ⟨by simp <;> omega, by rw [stepL_take hgy hp]; clear hp hO hR hc2 hI2 hs1; grind [stepL], hR3⟩ (by simp <;> omega) (by refine ⟨rfl, rfl, rfl, ?_⟩; repeat (first | exact trivial | refine ⟨rfl, ?_⟩)) (fun w hs => hs.dropMid (a := [_])) | exact Run.again (k + 1, (m ++ [lv], true), v', q') ⟨by simp <;> omega, by rw [stepL_take hgy hp]; clear hp hO hR hc2 hI2 hs1; grind [stepL], hR2⟩ (by simp <;> omega) (by refine ⟨rfl, rfl, rfl, ?_⟩; repeat (first | exact trivial | refine ⟨rfl, ?_⟩)) (fun w hs => hs) | exact Run.again (k + 1, (m, dn), r, q3) ⟨by simp <;> omega, by rw [stepL_take hgy hp]; clear hp hO hR hc2 hI2 hs1; grind [stepL], hR⟩ (by simp <;> omega) (by refine ⟨rfl, rfl, rfl, ?_⟩; repeat (first | exact trivial | refine ⟨rfl, ?_⟩)) (fun w hs => hs)
        ·
          refine Run.drawC Grow.eq 8 [(0, _), (3, _), (4, _), (5, _), (6, _), (7, _), (8, _)] mix (by kernel_rfl) (by repeat (first | exact trivial | refine ⟨rfl, ?_⟩)) ?_
          apply TC.val []
          · exact rfl
          · kernel_rfl
          ·
            rintro _ rfl 
            refine R.mv ?_
            refine R.nl ?_
            exact Run.loc rfl rfl rfl
          apply TC.val [0]
          · exact rfl
          · kernel_rfl
          ·
            rintro _ rfl _ rfl
            refine R.nt ?_
            refine R.nl ?_
            exact Run.loc rfl rfl rfl
          apply TC.val [0]
          · exact rfl
          · kernel_rfl
          ·
            rintro _ rfl _ rfl
            refine R.mv ?_
            refine R.nl ?_
            exact Run.loc rfl rfl rfl
          apply TC.val [0]
          · exact rfl
          · kernel_rfl
          ·
            rintro _ rfl _ rfl
            refine R.gF (zg5) ?_
            refine R.nl ?_
            exact Run.loc rfl rfl rfl
          apply TC.val [1]
          · exact rfl
          · kernel_rfl
          ·
            rintro _ rfl _ rfl
            refine R.gF (zg5) ?_
            refine R.nl ?_
            exact Run.loc rfl rfl rfl
          apply TC.val [2]
          · exact rfl
          · kernel_rfl
          ·
            rintro _ rfl _ rfl
            refine R.gF (zg5) ?_
            refine R.nl ?_
            exact Run.loc rfl rfl rfl
          apply TC.val [3, 1, 0]
          · exact rfl
          · kernel_rfl
          ·
            rintro _ rfl _ rfl _ rfl _ rfl
            refine R.gF (zg5) ?_
            refine R.nl ?_
            exact Run.loc rfl rfl rfl
          apply TC.val [4, 0]
          · exact rfl
          · kernel_rfl
          ·
            rintro _ rfl _ rfl _ rfl
            refine R.gF (zg5) ?_
            refine R.nl ?_
            exact Run.loc rfl rfl rfl
          refine TC.fin (by rfl) ?_
          rintro _ rfl _ rfl _ rfl _ rfl _ rfl _ rfl _ rfl _ rfl _ rfl
          refine R.gF (zg5) ?_
          refine R.gF (zg5) ?_
          refine R.pF (zg5) ?_
          refine R.nl ?_
          refine R.hs (e' := [(0, _), (3, _), (4, _), (5, _), (6, _), (7, _), (8, _), (44, _)]) ?_
          refine R.cF (rfl) ?_
          refine Run.skip ?_
          refine R.sq ?_
          refine Run.drawC Grow.eq 5 [(0, _), (3, _), (4, _), (5, _), (6, _), (7, _), (8, _)] mix (by kernel_rfl) (by repeat (first | exact trivial | refine ⟨rfl, ?_⟩)) ?_
          apply TC.val []
          · exact rfl
          · kernel_rfl
          ·
            rintro _ rfl 
            refine R.mv ?_
            refine R.nl ?_
            exact Run.loc rfl rfl rfl
          apply TC.val []
          · exact rfl
          · kernel_rfl
          ·
            rintro _ rfl 
            refine R.mv ?_
            refine R.nl ?_
            exact Run.loc rfl rfl rfl
          apply TC.val [1, 0]
          · exact rfl
          · kernel_rfl
          ·
            rintro _ rfl _ rfl _ rfl
            refine R.ix (hI2) Try.runUnderlying47 Try.sizeOf42 ?_
            refine R.nl ?_
            exact Run.loc rfl rfl rfl
          apply TC.val [0]
          · exact rfl
          · kernel_rfl
          ·
            rintro _ rfl _ rfl
            refine R.lAD 3 Try.isAgg42 Try.sizeOf42 ?_
            refine R.nl ?_
            exact Run.loc rfl rfl rfl
          apply TC.val []
          · exact rfl
          · kernel_rfl
          ·
            rintro _ rfl 
            refine R.lA 3 Try.isAgg42 Try.sizeOf42 ?_ (hc := CsN.mkM (List.mem_append_right _ (.head _)) rfl)
            refine R.nl ?_
            exact Run.loc rfl rfl rfl
          refine TC.fin (by rfl) ?_
          rintro _ rfl _ rfl _ rfl _ rfl _ rfl _ rfl
          refine R.na Try.eqGuardType42 (eqAt42 _ _ _ _ _ _) ?_
          refine R.nl ?_
          refine R.hs (e' := [(0, _), (3, _), (4, _), (5, _), (6, _), (7, _), (8, _), (54, _)]) ?_
          refine R.cd (fun zc48 => ?_) (fun zc48 => ?_)
          ·
            have hne : y ≠ lv := by rw [ne_eq, Lv.ext']; simp at zc48; omega
            refine R.rg ?_
            refine R.mv ?_
            refine R.mv ?_
            refine R.mv ?_
            refine R.ix (hI2) Try.runUnderlying47 Try.sizeOf42 ?_
            refine R.lAD 3 Try.isAgg42 Try.sizeOf42 ?_
            refine R.bs zc42 Try.runUnderlying47 Try.sizeOf42 Try.zeroValue42 (fun zb49 hzb49 => ?_)
            refine R.ap Try.underlying47 info42 ((by first | exact hR2 | exact hR)) (permQ (a := [_])) (Src.lit (List.mem_append_right _ (.head _)) rfl) (by first | omega | (simp only [List.length_append, List.length_singleton]; omega)) (Lv.ones y) ?_
            intro v' q' hO'
            have hR3 := OL.snoc (x := y) hO' rfl
            refine R.as ?_
            refine R.nl ?_
            refine R.hs (e' := [(0, _), (3, _), (4, _), (5, _), (6, _), (7, _), (8, _)]) ?_
            refine Run.endBlock ?_
            refine R.rg ?_
            refine R.mv ?_
            refine R.ad ?_
            refine R.as ?_
            refine R.nl ?_
            refine R.hs (e' := [(0, _), (3, _), (4, _), (5, _), (6, _), (7, _), (8, _)]) ?_
            first | exact Run.again (k + 1, (m ++ [lv] ++ [y], true), v', q') ⟨by simp <;> omega, by rw [stepL_take hgy hp]; clear hp hO hR hc2 hI2 hs1; grind [stepL], hR3⟩ (by simp <;> omega) (by refine ⟨rfl, rfl, rfl, ?_⟩; repeat (first | exact trivial | refine ⟨rfl, ?_⟩)) (fun w hs => hs.dropMid (a := [_])) | exact Run.again (k + 1, (m ++ [y], dn), v', q') ⟨by simp <;> omega, by rw [stepL_take hgy hp]; clear hp hO hR hc2 hI2 hs1; grind [stepL], hR3⟩ (by simp <;> omega) (by refine ⟨rfl, rfl, rfl, ?_⟩; repeat (first | exact trivial | refine ⟨rfl, ?_⟩)) (fun w hs => hs.dropMid (a := [_])) | exact Run.again (k + 1, (m ++ [lv], true), v', q') ⟨by simp <;> omega, by rw [stepL_take hgy hp]; clear hp hO hR hc2 hI2 hs1; grind [stepL], hR2⟩ (by simp <;> omega) (by refine ⟨rfl, rfl, rfl, ?_⟩; repeat (first | exact trivial | refine ⟨rfl, ?_⟩)) (fun w hs => hs) | exact Run.again (k + 1, (m, dn), r, q3) ⟨by simp <;> omega, by rw [stepL_take hgy hp]; clear hp hO hR hc2 hI2 hs1; grind [stepL], hR⟩ (by simp <;> omega) (by refine ⟨rfl, rfl, rfl, ?_⟩; repeat (first | exact trivial | refine ⟨rfl, ?_⟩)) (fun w hs => hs)
          ·
            have hne : y = lv := by rw [Lv.ext']; simpa using zc48
            refine Run.skip ?_
            refine Run.endBlock ?_
            refine R.rg ?_
            refine R.mv ?_
            refine R.ad ?_
            refine R.as ?_
            refine R.nl ?_
            refine R.hs (e' := [(0, _), (3, _), (4, _), (5, _), (6, _), (7, _), (8, _)]) ?_
            first | exact Run.again (k + 1, (m ++ [lv] ++ [y], true), v', q') ⟨by simp <;> omega, by rw [stepL_take hgy hp]; clear hp hO hR hc2 hI2 hs1; grind [stepL], hR3⟩ (by simp <;> omega) (by refine ⟨rfl, rfl, rfl, ?_⟩; repeat (first | exact trivial | refine ⟨rfl, ?_⟩)) (fun w hs => hs.dropMid (a := [_])) | exact Run.again (k + 1, (m ++ [y], dn), v', q') ⟨by simp <;> omega, by rw [stepL_take hgy hp]; clear hp hO hR hc2 hI2 hs1; grind [stepL], hR3⟩ (by simp <;> omega) (by refine ⟨rfl, rfl, rfl, ?_⟩; repeat (first | exact trivial | refine ⟨rfl, ?_⟩)) (fun w hs => hs.dropMid (a := [_])) | exact Run.again (k + 1, (m ++ [lv], true), v', q') ⟨by simp <;> omega, by rw [stepL_take hgy hp]; clear hp hO hR hc2 hI2 hs1; grind [stepL], hR2⟩ (by simp <;> omega) (by refine ⟨rfl, rfl, rfl, ?_⟩; repeat (first | exact trivial | refine ⟨rfl, ?_⟩)) (fun w hs => hs) | exact Run.again (k + 1, (m, dn), r, q3) ⟨by simp <;> omega, by rw [stepL_take hgy hp]; clear hp hO hR hc2 hI2 hs1; grind [stepL], hR⟩ (by simp <;> omega) (by refine ⟨rfl, rfl, rfl, ?_⟩; repeat (first | exact trivial | refine ⟨rfl, ?_⟩)) (fun w hs => hs)
      ·
        have hzk : out.take k = out := by simp at zc4; exact List.take_of_length_le (by omega)
        rw [hzk] at hp
        refine Run.exit rfl ?_
        refine R.sq ?_
        refine R.sq ?_
        refine R.rg ?_
        refine R.mv ?_
        refine R.nt ?_
        refine R.nl ?_
        refine R.hs (e' := [(0, _), (4, _), (5, _), (6, _), (63, _)]) ?_
        refine R.cd (fun zc50 => ?_) (fun zc50 => ?_)
        ·
          have hdn : dn = false := by simpa using zc50
          have hW0 : insL lv out = m ++ [lv] := by simp [insL, ← hp, hdn]
          refine R.rg ?_
          refine R.mv ?_
          refine R.lA 3 Try.isAgg42 Try.sizeOf42 ?_ (hc := CsN.mkM (List.mem_append_right _ (.head _)) rfl)
          refine R.bs zc42 Try.runUnderlying47 Try.sizeOf42 Try.zeroValue42 (fun zb51 hzb51 => ?_)
          refine R.ap Try.underlying47 info42 (hR) (permQ (a := [_])) (Src.lit (List.mem_append_right _ (.head _)) rfl) (by omega) (Lv.ones lv) ?_
          intro v' q' hO'
          have hR2 : LR v' (m ++ [lv]) q' := OL.snoc hO' rfl
          refine R.as ?_
          refine R.nl ?_
          refine Run.st (fun w hs => hs.dropMid (a := [_])) ?_
          have hW : LR v' (insL lv out) q' := by rw [hW0]; exact hR2
          refine R.hs (e' := [(0, _), (4, _), (6, _)]) ?_
          refine R.rg ?_
          refine R.mv ?_
          refine R.as ?_
          refine R.nl ?_
          refine R.hs (e' := [(0, _), (3, _), (4, _)]) ?_
          refine Run.endBlock ?_
          refine R.rg ?_
          refine R.mv ?_
          refine R.ad ?_
          refine R.as ?_
          refine R.nl ?_
          refine R.hs (e' := [(0, _), (3, _), (4, _)]) ?_
          first | exact Run.again (i + 1, v', q') ⟨by simp <;> omega, by rw [hs1]; exact hW⟩ (by simp <;> omega) (by refine ⟨rfl, rfl, ?_⟩; repeat (first | exact trivial | refine ⟨rfl, ?_⟩)) (fun w hs => hs.dropMid (a := _ :: q0)) | exact Run.again (i + 1, r, q3) ⟨by simp <;> omega, by rw [hs1]; exact hW⟩ (by simp <;> omega) (by refine ⟨rfl, rfl, ?_⟩; repeat (first | exact trivial | refine ⟨rfl, ?_⟩)) (fun w hs => hs.dropMid (a := _ :: q0)) | exact Run.again (i + 1, v, q0) ⟨by simp <;> omega, by rw [hs1]; exact hO⟩ (by simp <;> omega) (by refine ⟨rfl, rfl, ?_⟩; repeat (first | exact trivial | refine ⟨rfl, ?_⟩)) (fun w hs => hs)
        ·
          have hdn : dn = true := by simpa using zc50
          have hW0 : insL lv out = m := by simp [insL, ← hp, hdn]
          have hW : LR r (insL lv out) q3 := by rw [hW0]; exact hR
          refine Run.skip ?_
          refine R.rg ?_
          refine R.mv ?_
          refine R.as ?_
          refine R.nl ?_
          refine R.hs (e' := [(0, _), (3, _), (4, _)]) ?_
          refine Run.endBlock ?_
          refine R.rg ?_
          refine R.mv ?_
          refine R.ad ?_
          refine R.as ?_
          refine R.nl ?_
          refine R.hs (e' := [(0, _), (3, _), (4, _)]) ?_
          first | exact Run.again (i + 1, v', q') ⟨by simp <;> omega, by rw [hs1]; exact hW⟩ (by simp <;> omega) (by refine ⟨rfl, rfl, ?_⟩; repeat (first | exact trivial | refine ⟨rfl, ?_⟩)) (fun w hs => hs.dropMid (a := _ :: q0)) | exact Run.again (i + 1, r, q3) ⟨by simp <;> omega, by rw [hs1]; exact hW⟩ (by simp <;> omega) (by refine ⟨rfl, rfl, ?_⟩; repeat (first | exact trivial | refine ⟨rfl, ?_⟩)) (fun w hs => hs.dropMid (a := _ :: q0)) | exact Run.again (i + 1, v, q0) ⟨by simp <;> omega, by rw [hs1]; exact hO⟩ (by simp <;> omega) (by refine ⟨rfl, rfl, ?_⟩; repeat (first | exact trivial | refine ⟨rfl, ?_⟩)) (fun w hs => hs)
  ·
    have hz : xs.take i = xs := by simp at zc1; exact List.take_of_length_le (by omega)
    refine Run.exit rfl ?_
    refine R.sq ?_
    refine R.rg ?_
    refine R.mv ?_
    refine R.as ?_
    refine R.nl ?_
    refine R.hs (e' := [(2, _)]) ?_
    rw [hz] at hO
    refine R.frO hO (fun D' hle hL => ?_)
    exact R.rk (RV.t .nil) 0 ⟨hle, rfl, hL⟩
end Go.Proofs.Ytgdpjpmjcpieiaa
