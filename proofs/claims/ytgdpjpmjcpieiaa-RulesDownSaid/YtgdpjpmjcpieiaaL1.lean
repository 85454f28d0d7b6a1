/- Which links go down, which up: the program's answer is some order of the ids. No condition. -/
import Derived.Test.YtgdpjpmjcpieiaaSo2
namespace Go.Proofs.Ytgdpjpmjcpieiaa
open Go
set_option linter.unusedVariables false
set_option linter.unusedSimpArgs false
set_option maxRecDepth 100000
set_option maxHeartbeats 0
abbrev IR (v : Value) (zs : List Int) (q : MList) : Prop := OL 1 (fun x => [Value.int .i64 x]) 3 v zs q
def someV (own : Ht) (dir : Int) (xs : List Vw) : List Vw := xs.filter (fun x => decide (dirH own x.h = dir))
theorem of_spec {g : Gl} {D : Dict} {M : MList} {a : Value} {xs : List Vw} (own : Ht) (dir : Int) (hn : xs.length ≤ 1000) (ha : Vws D a xs) :
    Gets Try.prog g 56 [a, .agg (Ht.cells own).toArray, .int .i64 dir] D M (fun v D => ∃ zs : List Vw, zs.Perm (someV own dir xs) ∧ Ints D v (zs.map (·.id))) := by
  have hla := ha.form.choose_spec.choose_spec.2.2
  refine Gets.enter Try.func56 rfl Try.ntmps56 ?_
  refine R.sq ?_
  refine R.rg ?_
  refine R.bxA (fun zb1 hzb1 => ?_)
  refine R.as ?_
  refine R.nl ?_
  refine R.hs (e' := [(0, _), (2, _), (4, _)]) ?_
  refine R.sq ?_
  refine R.rg ?_
  refine R.as ?_
  refine R.nl ?_
  refine R.hs (e' := [(0, _), (2, _), (4, _), (7, _)]) ?_
  refine R.sq ?_
  refine R.sq ?_
  refine R.rg ?_
  refine R.mv ?_
  refine R.ll (ha) Try.runUnderlying24 ?_
  refine R.mv ?_
  refine R.nl ?_
  refine R.hs (e' := [(2, _), (4, _), (7, _), (13, _), (14, _), (15, _)]) ?_
  refine Run.block ?_
  refine Run.loop (ι := Nat × Value × MList) [(2, _), (4, _), (13, _), (14, _)] (fun p => [(15, .int .i64 (p.1 : Int)), (7, p.2.1)]) (fun _ => D) (fun p => p.2.2 ++ ((zb1, .cells (Ht.cells own).toArray 23 (0, 0)) :: M)) (fun p => p.1 ≤ xs.length ∧ VR p.2.1 (someV own dir (xs.take p.1)) p.2.2) (fun p => xs.length - p.1) ((0, .slice none 0 0, [])) (by repeat (first | exact trivial | refine ⟨rfl, ?_⟩)) ?h0 (by repeat (first | exact trivial | refine ⟨rfl, ?_⟩)) (fun w hs => hs) ?_
  case h0 => exact ⟨Nat.zero_le _, OL.nil⟩
  rintro ⟨i, v, q0⟩ ⟨hi, hO⟩
  simp only at hi hO
  refine R.sq ?_
  refine R.rg ?_
  refine R.cm ?_
  refine R.nl ?_
  refine R.hs (e' := [(2, _), (4, _), (7, _), (13, _), (14, _), (15, _), (16, _)]) ?_
  refine R.sq ?_
  refine R.cd (fun zc2 => ?_) (fun zc2 => ?_)
  ·
    have hlt : i < xs.length := by simp at zc2; omega
    obtain ⟨x, hgx⟩ := get_of_lt hlt
    obtain ⟨b1, o1, hI1, hc1⟩ := ha.at Vw.len hgx
    have hlen : (someV own dir (xs.take i)).length ≤ 1000 := Nat.le_trans (List.length_filter_le _ _) (by rw [List.length_take]; omega)
    refine Run.skip ?_
    refine R.sq ?_
    refine Run.block ?_
    refine R.sq ?_
    refine R.rg ?_
    refine R.ix (hI1) Try.runUnderlying24 Try.sizeOf36 ?_
    refine R.lAD 7 Try.isAgg36 Try.sizeOf36 ?_
    refine R.alA Try.zeroValue36 (fun zb3 hzb3 => ?_)
    refine R.st Try.sizeOf36 ?_
    refine R.nl ?_
    refine R.hs (e' := [(2, _), (4, _), (7, _), (9, _), (13, _), (14, _), (15, _)]) ?_
    refine R.sq ?_
    refine R.rg ?_
    refine R.lA 6 Try.isAgg23 Try.sizeOf23 ?_ (hc := CsN.mkM (.tail _ (List.mem_append_right _ (.head _))) rfl)
    refine R.fa Try.runUnderlying36 Try.sizeOf23 ?_
    refine R.lA 6 Try.isAgg23 Try.sizeOf23 ?_
    refine R.cg Try.call65 (dir_spec own x.h) ?_
    refine R.mv ?_
    refine R.cm ?_
    refine R.nl ?_
    refine R.hs (e' := [(2, _), (4, _), (7, _), (9, _), (13, _), (14, _), (15, _), (24, _)]) ?_
    refine R.cd (fun zc4 => ?_) (fun zc4 => ?_)
    ·
      have hd : dirH own x.h = dir := by simpa using zc4
      have hs1 : someV own dir (xs.take (i + 1)) = someV own dir (xs.take i) ++ [x] := by rw [take_succ' hgx]; simp [someV, List.filter_append, hd]
      refine R.rg ?_
      refine R.mv ?_
      refine R.lA 7 Try.isAgg36 Try.sizeOf36 ?_
      refine R.bs zc75 Try.runUnderlying73 Try.sizeOf75 Try.zeroValue75 (fun zb5 hzb5 => ?_)
      refine R.ap Try.underlying73 info75 (hO) (permQ (a := [_, _])) (Src.lit (List.mem_append_right _ (.head _)) rfl) (by omega) (Vw.ones x) ?_
      intro v' q' hO'
      have hO2 : VR v' (someV own dir (xs.take i) ++ [x]) q' := OL.snoc hO' rfl
      refine R.as ?_
      refine R.nl ?_
      refine R.hs (e' := [(2, _), (4, _), (7, _), (13, _), (14, _), (15, _)]) ?_
      refine Run.endBlock ?_
      refine R.rg ?_
      refine R.ad ?_
      refine R.mv ?_
      refine R.nl ?_
      refine R.hs (e' := [(2, _), (4, _), (7, _), (13, _), (14, _), (15, _)]) ?_
      first | exact Run.again (i + 1, v', q') ⟨by simp <;> omega, by rw [hs1]; exact hO2⟩ (by simp <;> omega) (by refine ⟨rfl, rfl, ?_⟩; repeat (first | exact trivial | refine ⟨rfl, ?_⟩)) (fun w hs => hs.dropMid (a := [_, _])) | exact Run.again (i + 1, v, q0) ⟨by simp <;> omega, by rw [hs1]; exact hO⟩ (by simp <;> omega) (by refine ⟨rfl, rfl, ?_⟩; repeat (first | exact trivial | refine ⟨rfl, ?_⟩)) (fun w hs => hs.drop 1)
    ·
      have hd : ¬ dirH own x.h = dir := by simpa using zc4
      have hs1 : someV own dir (xs.take (i + 1)) = someV own dir (xs.take i) := by rw [take_succ' hgx]; simp [someV, List.filter_append, hd]
      refine Run.skip ?_
      refine Run.endBlock ?_
      refine R.rg ?_
      refine R.ad ?_
      refine R.mv ?_
      refine R.nl ?_
      refine R.hs (e' := [(2, _), (4, _), (7, _), (13, _), (14, _), (15, _)]) ?_
      first | exact Run.again (i + 1, v', q') ⟨by simp <;> omega, by rw [hs1]; exact hO2⟩ (by simp <;> omega) (by refine ⟨rfl, rfl, ?_⟩; repeat (first | exact trivial | refine ⟨rfl, ?_⟩)) (fun w hs => hs.dropMid (a := [_, _])) | exact Run.again (i + 1, v, q0) ⟨by simp <;> omega, by rw [hs1]; exact hO⟩ (by simp <;> omega) (by refine ⟨rfl, rfl, ?_⟩; repeat (first | exact trivial | refine ⟨rfl, ?_⟩)) (fun w hs => hs.drop 1)
  ·
    have hz : xs.take i = xs := by simp at zc2; exact List.take_of_length_le (by omega)
    have hOx : VR v (someV own dir xs) q0 := by rw [hz] at hO; exact hO
    refine Run.exit rfl ?_
    refine R.sq ?_
    refine R.rg ?_
    refine R.mv ?_
    refine R.ca Try.call66 (sortStable_spec (Nat.le_trans (List.length_filter_le _ _) (Nat.le_trans hn (by decide))) hOx) ?_
    rintro _ _ _ ⟨rfl, zs, q1, hO1, hp1, rfl⟩
    obtain ⟨A, c, hvf, hl1⟩ := hO1.form
    subst hvf
    have hzl : zs.length ≤ 1000 := by rw [hp1.length_eq]; exact Nat.le_trans (List.length_filter_le _ _) hn
    refine R.nl ?_
    refine R.hs (e' := [(7, _)]) ?_
    refine R.sq ?_
    refine R.rg ?_
    refine R.as ?_
    refine R.nl ?_
    refine R.hs (e' := [(7, _), (10, _)]) ?_
    refine R.sq ?_
    refine R.sq ?_
    refine R.rg ?_
    refine R.mv ?_
    refine R.ln Try.runUnderlying73 ?_
    refine R.mv ?_
    refine R.nl ?_
    refine R.hs (e' := [(10, _), (32, _), (33, _), (34, _)]) ?_
    refine Run.block ?_
    refine Run.loop (ι := Nat × Value × MList) [(32, _), (33, _)] (fun p => [(34, .int .i64 (p.1 : Int)), (10, p.2.1)]) (fun _ => D) (fun p => p.2.2 ++ (q1 ++ ((zb1, .cells (Ht.cells own).toArray 23 (0, 0)) :: M))) (fun p => p.1 ≤ zs.length ∧ IR p.2.1 ((zs.take p.1).map (·.id)) p.2.2) (fun p => zs.length - p.1) ((0, .slice none 0 0, [])) (by repeat (first | exact trivial | refine ⟨rfl, ?_⟩)) ?h0 (by repeat (first | exact trivial | refine ⟨rfl, ?_⟩)) (fun w hs => hs) ?_
    case h0 => exact ⟨Nat.zero_le _, OL.nil⟩
    rintro ⟨k, u, q2⟩ ⟨hk, hU⟩
    simp only at hk hU
    refine R.sq ?_
    refine R.rg ?_
    refine R.cm ?_
    refine R.nl ?_
    refine R.hs (e' := [(10, _), (32, _), (33, _), (34, _), (35, _)]) ?_
    refine R.sq ?_
    refine R.cd (fun zc6 => ?_) (fun zc6 => ?_)
    ·
      have hltk : k < zs.length := by simp at zc6; omega
      obtain ⟨y, hgy⟩ := get_of_lt hltk
      obtain ⟨b2, o2, hI2, hc2⟩ := hO1.at (D := D) (M := q2 ++ (q1 ++ ((zb1, .cells (Ht.cells own).toArray 23 (0, 0)) :: M))) (fun p hp => List.mem_append_right _ (List.mem_append_left _ hp)) Vw.len hgy
      have hlenk : ((zs.take k).map (·.id)).length ≤ 1000 := by rw [List.length_map, List.length_take]; omega
      refine Run.skip ?_
      refine R.sq ?_
      refine Run.block ?_
      refine R.sq ?_
      refine R.rg ?_
      refine R.ix (hI2) Try.runUnderlying73 Try.sizeOf75 ?_
      refine R.lAD 7 Try.isAgg75 Try.sizeOf75 ?_
      refine R.alA Try.zeroValue75 (fun zb7 hzb7 => ?_)
      refine R.st Try.sizeOf75 ?_
      refine R.nl ?_
      refine R.hs (e' := [(10, _), (12, _), (32, _), (33, _), (34, _)]) ?_
      refine R.rg ?_
      refine R.mv ?_
      refine R.fa Try.runUnderlying75 Try.sizeOf3 ?_
      refine R.ld Try.isAgg3 ?_
      refine R.bs zc3 Try.runUnderlying45 Try.sizeOf3 Try.zeroValue3 (fun zb8 hzb8 => ?_)
      refine R.ap Try.underlying45 info3 (hU) (permQ (a := [_, _])) (Src.lit (List.mem_append_right _ (.head _)) rfl) (by omega) (ones rfl) ?_
      intro v' q' hO'
      have hU2 : IR v' ((zs.take k).map (·.id) ++ [y.id]) q' := OL.snoc hO' rfl
      refine R.as ?_
      refine R.nl ?_
      refine R.hs (e' := [(10, _), (32, _), (33, _), (34, _)]) ?_
      refine Run.endBlock ?_
      refine R.rg ?_
      refine R.ad ?_
      refine R.mv ?_
      refine R.nl ?_
      refine R.hs (e' := [(10, _), (32, _), (33, _), (34, _)]) ?_
      exact Run.again (k + 1, v', q') ⟨by simp <;> omega, by rw [take_succ' hgy, List.map_append]; exact hU2⟩ (by simp <;> omega) (by refine ⟨rfl, rfl, ?_⟩; repeat (first | exact trivial | refine ⟨rfl, ?_⟩)) (fun w hs => hs.dropMid (a := [_, _]))
    ·
      have hzk : zs.take k = zs := by simp at zc6; exact List.take_of_length_le (by omega)
      refine Run.exit rfl ?_
      refine R.sq ?_
      refine R.rg ?_
      refine R.mv ?_
      refine R.as ?_
      refine R.nl ?_
      refine R.hs (e' := [(6, _)]) ?_
      rw [hzk] at hU
      refine R.frO hU (fun D' hle hL => ?_)
      exact Run.st (fun w hs => (hs.dropL).drop 1) (R.rk (RV.t .nil) 0 ⟨hle, rfl, zs, hp1, hL⟩)
theorem downs_spec {g : Gl} {D : Dict} {M : MList} {a : Value} {xs : List Vw} (own : Ht) (hn : xs.length ≤ 1000) (ha : Vws D a xs) :
    Gets Try.prog g 19 [a, .agg (Ht.cells own).toArray] D M (fun v D => ∃ zs : List Vw, zs.Perm (someV own 1 xs) ∧ Ints D v (zs.map (·.id))) := by
  refine Gets.enter Try.func19 rfl Try.ntmps19 ?_
  refine R.sq ?_
  refine R.rg ?_
  refine R.bxA (fun zb1 hzb1 => ?_)
  refine R.as ?_
  refine R.nl ?_
  refine R.hs (e' := [(0, _), (3, _)]) ?_
  refine R.sq ?_
  refine R.rg ?_
  refine R.mv ?_
  refine R.lA 6 Try.isAgg23 Try.sizeOf23 ?_
  refine R.gt Try.call56 (of_spec own 1 hn ha) (fun zr1_2 zD2 hzD2 hzr1_2 => ?_)
  refine R.as ?_
  refine R.nl ?_
  refine R.hs (e' := [(4, _)]) ?_
  exact R.rk (RV.t .nil) 1 ⟨by assumption, rfl, hzr1_2⟩
end Go.Proofs.Ytgdpjpmjcpieiaa
