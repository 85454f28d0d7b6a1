/- Which links go down: the document's answer is some order of the ids. No condition. -/
import Derived.Test.YtgdpjpmjcpieiaaL1
namespace Go.Proofs.Ytgdpjpmjcpieiaa
open Go
set_option linter.unusedVariables false
set_option linter.unusedSimpArgs false
set_option maxRecDepth 100000
set_option maxHeartbeats 0
theorem lowV_mem {ws : List Vw} (h : ∀ x ∈ ws, toldH x.h = true) (hne : ws ≠ []) : ∃ x ∈ ws, lowV ws = some x := by
  have key : ∀ (r : List Vw) (b : Option Vw), (∀ x ∈ r, toldH x.h = true) → (r ≠ [] ∨ b ≠ none) → ∃ x, r.foldl lowStep b = some x ∧ (x ∈ r ∨ b = some x) := by
    intro r
    induction r with
    | nil =>
      intro b _ hb
      cases b with
      | none => simp at hb
      | some x => exact ⟨x, rfl, .inr rfl⟩
    | cons y r ih =>
      intro b ht _
      have hy := ht y (List.mem_cons_self ..)
      have hs : ∃ z, lowStep b y = some z ∧ (z = y ∨ b = some z) := by
        unfold lowStep
        split
        · exact ⟨y, rfl, .inl rfl⟩
        · rename_i hc
          cases b with
          | none => simp [hy] at hc
          | some z => exact ⟨z, rfl, .inr rfl⟩
      obtain ⟨z, hz, hz2⟩ := hs
      obtain ⟨x, h1, h2⟩ := ih (lowStep b y) (fun x hx => ht x (List.mem_cons_of_mem _ hx)) (.inr (by rw [hz]; simp))
      refine ⟨x, h1, ?_⟩
      rcases h2 with h2 | h2
      · exact .inl (List.mem_cons_of_mem _ h2)
      · rw [hz] at h2
        injection h2 with h2
        subst h2
        rcases hz2 with e | e
        · exact .inl (e ▸ List.mem_cons_self ..)
        · exact .inr e
  obtain ⟨x, h1, h2⟩ := key ws none h (.inl hne)
  rcases h2 with h2 | h2
  · exact ⟨x, h2, h1⟩
  · cases h2
theorem someV_told {own : Ht} {dir : Int} {xs : List Vw} {y : Vw} (hd : dir ≠ 0) (h : y ∈ someV own dir xs) : toldH y.h = true := by
  simp only [someV, List.mem_filter, decide_eq_true_eq] at h
  obtain ⟨_, h⟩ := h
  cases hq : toldH y.h with
  | true => rfl
  | false => exact absurd (by rw [← h]; simp [dirH, hq]) hd
theorem erase_snoc {t : List Vw} {y low : Vw} (h : low ∈ t ∨ y ≠ low) : (t ++ [y]).erase low = t.erase low ++ [y] := by
  by_cases hm : low ∈ t
  · exact List.erase_append_left _ hm
  · have hy := h.resolve_left hm
    rw [List.erase_append_right _ hm, List.erase_of_not_mem hm, List.erase_of_not_mem (by simpa using fun e => hy e.symm)]
theorem refOf_spec {g : Gl} {D : Dict} {M : MList} {a : Value} {xs : List Vw} (own : Ht) (dir : Int) (hd0 : dir ≠ 0) (hn : xs.length ≤ 1000) (ha : Vws D a xs) :
    Gets Try.prog g 62 [a, .agg (Ht.cells own).toArray, .int .i64 dir] D M (fun v D => ∃ zs : List Vw, zs.Perm (someV own dir xs) ∧ Ints D v (zs.map (·.id))) := by
  have hla := ha.form.choose_spec.choose_spec.2.2
  refine Gets.enter Try.func62 rfl Try.ntmps62 ?_
  refine R.sq ?_
  refine R.rg ?_
  refine R.bxA (fun zb1 hzb1 => ?_)
  refine R.as ?_
  refine R.nl ?_
  refine R.hs (e' := [(0, _), (2, _), (4, _)]) ?_
  refine R.sq ?_
  refine R.rg ?_
  refine R.as ?_
  refine R.nl ?_
  refine R.hs (e' := [(0, _), (2, _), (4, _), (7, _)]) ?_
  refine R.sq ?_
  refine R.sq ?_
  refine R.rg ?_
  refine R.as ?_
  refine R.nl ?_
  refine R.hs (e' := [(0, _), (2, _), (4, _), (7, _), (8, _)]) ?_
  refine Run.block ?_
  refine Run.loop (ι := Nat × Value × MList) [(0, _), (2, _), (4, _)] (fun p => [(8, .int .i64 (p.1 : Int)), (7, p.2.1)]) (fun _ => D) (fun p => p.2.2 ++ ((zb1, .cells (Ht.cells own).toArray 23 (0, 0)) :: M)) (fun p => p.1 ≤ xs.length ∧ OL 7 Vw.cells 36 p.2.1 (someV own dir (xs.take p.1)) p.2.2) (fun p => xs.length - p.1) ((0, .slice none 0 0, [])) (by repeat (first | exact trivial | refine ⟨rfl, ?_⟩)) ?h0 (by repeat (first | exact trivial | refine ⟨rfl, ?_⟩)) (fun w hs => hs) ?_
  case h0 => exact ⟨Nat.zero_le _, OL.nil⟩
  rintro ⟨i, v, q0⟩ ⟨hi, hO⟩
  simp only at hi hO
  refine R.sq ?_
  refine R.sq ?_
  refine R.rg ?_
  refine R.mv ?_
  refine R.mv ?_
  refine R.ll (ha) Try.runUnderlying24 ?_
  refine R.cm ?_
  refine R.nl ?_
  refine R.hs (e' := [(0, _), (2, _), (4, _), (7, _), (8, _), (18, _)]) ?_
  refine R.cd (fun zc2 => ?_) (fun zc2 => ?_)
  ·
    have hlt : i < xs.length := by simp at zc2; omega
    obtain ⟨x, hgx⟩ := get_of_lt hlt
    obtain ⟨b1, o1, hI1, hc1⟩ := ha.at Vw.len hgx
    have hlen : (someV own dir (xs.take i)).length ≤ 1000 := Nat.le_trans (List.length_filter_le _ _) (by rw [List.length_take]; omega)
    refine Run.skip ?_
    refine R.sq ?_
    refine Run.block ?_
    refine R.sq ?_
    refine Run.drawC Grow.eq 8 [(0, _), (2, _), (4, _), (7, _), (8, _)] mix (by kernel_rfl) (by repeat (first | exact trivial | refine ⟨rfl, ?_⟩)) ?_
    apply TC.val []
    · exact rfl
    · kernel_rfl
    ·
      rintro _ rfl 
      refine R.lA 6 Try.isAgg23 Try.sizeOf23 ?_ (hc := CsN.mkM (List.mem_append_right _ (.head _)) rfl)
      refine R.nl ?_
      exact Run.loc rfl rfl rfl
    apply TC.val []
    · exact rfl
    · kernel_rfl
    ·
      rintro _ rfl 
      refine R.mv ?_
      refine R.nl ?_
      exact Run.loc rfl rfl rfl
    apply TC.val []
    · exact rfl
    · kernel_rfl
    ·
      rintro _ rfl 
      refine R.mv ?_
      refine R.nl ?_
      exact Run.loc rfl rfl rfl
    apply TC.val [1, 0]
    · exact rfl
    · kernel_rfl
    ·
      rintro _ rfl _ rfl _ rfl
      refine R.ix (hI1) Try.runUnderlying24 Try.sizeOf36 ?_
      refine R.nl ?_
      exact Run.loc rfl rfl rfl
    apply TC.val [0]
    · exact rfl
    · kernel_rfl
    ·
      rintro _ rfl _ rfl
      refine R.fa Try.runUnderlying36 Try.sizeOf23 ?_
      refine R.nl ?_
      exact Run.loc rfl rfl rfl
    apply TC.val [0]
    · exact rfl
    · kernel_rfl
    ·
      rintro _ rfl _ rfl
      refine R.lAD 6 Try.isAgg23 Try.sizeOf23 ?_
      refine R.nl ?_
      exact Run.loc rfl rfl rfl
    apply TC.val [5, 0]
    · exact rfl
    · kernel_rfl
    ·
      rintro _ rfl _ rfl _ rfl
      refine R.cg Try.call72 (refDir_spec own x.h) ?_
      refine R.nl ?_
      exact Run.loc rfl rfl rfl
    apply TC.val []
    · exact rfl
    · kernel_rfl
    ·
      rintro _ rfl 
      refine R.mv ?_
      refine R.nl ?_
      exact Run.loc rfl rfl rfl
    refine TC.fin (by rfl) ?_
    rintro _ rfl _ rfl _ rfl _ rfl _ rfl _ rfl _ rfl _ rfl _ rfl
    refine R.cm ?_
    refine R.nl ?_
    refine R.hs (e' := [(0, _), (2, _), (4, _), (7, _), (8, _), (29, _)]) ?_
    refine R.cd (fun zc12 => ?_) (fun zc12 => ?_)
    ·
      have hd : dirH own x.h = dir := by simpa using zc12
      have hs1 : someV own dir (xs.take (i + 1)) = someV own dir (xs.take i) ++ [x] := by rw [take_succ' hgx]; simp [someV, List.filter_append, hd]
      refine R.rg ?_
      refine R.mv ?_
      refine R.mv ?_
      refine R.mv ?_
      refine R.ix (hI1) Try.runUnderlying24 Try.sizeOf36 ?_
      refine R.lAD 7 Try.isAgg36 Try.sizeOf36 ?_
      refine R.bs zc36 Try.runUnderlying24 Try.sizeOf36 Try.zeroValue36 (fun zb13 hzb13 => ?_)
      refine R.ap Try.underlying24 info36 (hO) (permQ (a := [_])) (Src.lit (List.mem_append_right _ (.head _)) rfl) (by omega) (Vw.ones x) ?_
      intro v' q' hO'
      have hO2 : OL 7 Vw.cells 36 v' (someV own dir (xs.take i) ++ [x]) q' := OL.snoc hO' rfl
      refine R.as ?_
      refine R.nl ?_
      refine R.hs (e' := [(0, _), (2, _), (4, _), (7, _), (8, _)]) ?_
      refine Run.endBlock ?_
      refine R.rg ?_
      refine R.mv ?_
      refine R.ad ?_
      refine R.as ?_
      refine R.nl ?_
      refine R.hs (e' := [(0, _), (2, _), (4, _), (7, _), (8, _)]) ?_
      first | exact Run.again (i + 1, v', q') ⟨by simp <;> omega, by rw [hs1]; exact hO2⟩ (by simp <;> omega) (by refine ⟨rfl, rfl, ?_⟩; repeat (first | exact trivial | refine ⟨rfl, ?_⟩)) (fun w hs => hs.dropMid (a := [_])) | exact Run.again (i + 1, v, q0) ⟨by simp <;> omega, by rw [hs1]; exact hO⟩ (by simp <;> omega) (by refine ⟨rfl, rfl, ?_⟩; repeat (first | exact trivial | refine ⟨rfl, ?_⟩)) (fun w hs => hs)
    ·
      have hd : ¬ dirH own x.h = dir := by simpa using zc12
      have hs1 : someV own dir (xs.take (i + 1)) = someV own dir (xs.take i) := by rw [take_succ' hgx]; simp [someV, List.filter_append, hd]
      refine Run.skip ?_
      refine Run.endBlock ?_
      refine R.rg ?_
      refine R.mv ?_
      refine R.ad ?_
      refine R.as ?_
      refine R.nl ?_
      refine R.hs (e' := [(0, _), (2, _), (4, _), (7, _), (8, _)]) ?_
      first | exact Run.again (i + 1, v', q') ⟨by simp <;> omega, by rw [hs1]; exact hO2⟩ (by simp <;> omega) (by refine ⟨rfl, rfl, ?_⟩; repeat (first | exact trivial | refine ⟨rfl, ?_⟩)) (fun w hs => hs.dropMid (a := [_])) | exact Run.again (i + 1, v, q0) ⟨by simp <;> omega, by rw [hs1]; exact hO⟩ (by simp <;> omega) (by refine ⟨rfl, rfl, ?_⟩; repeat (first | exact trivial | refine ⟨rfl, ?_⟩)) (fun w hs => hs)
  ·
    have hz : xs.take i = xs := by simp at zc2; exact List.take_of_length_le (by omega)
    rw [hz] at hO
    refine R.frO hO (fun D1 hle1 hL1 => ?_)
    refine Run.exit rfl ?_
    refine R.sq ?_
    refine R.rg ?_
    refine R.as ?_
    refine R.nl ?_
    refine R.hs (e' := [(7, _), (9, _)]) ?_
    refine R.sq ?_
    refine Run.block ?_
    refine Run.loop (ι := Dict × Value × List Vw × Value × MList × List Vw) [] (fun p => [(7, p.2.1), (9, p.2.2.2.1)]) (fun p => p.1) (fun p => p.2.2.2.2.1 ++ ((zb1, .cells (Ht.cells own).toArray 23 (0, 0)) :: M)) (fun p => Le D p.1 ∧ Vws p.1 p.2.1 p.2.2.1 ∧ IR p.2.2.2.1 (p.2.2.2.2.2.map (·.id)) p.2.2.2.2.1 ∧ (p.2.2.2.2.2 ++ p.2.2.1).Perm (someV own dir xs)) (fun p => p.2.2.1.length) ((D1, v, someV own dir xs, .slice none 0 0, [], [])) (by repeat (first | exact trivial | refine ⟨rfl, ?_⟩)) ?h0 (by repeat (first | exact trivial | refine ⟨rfl, ?_⟩)) (fun w hs => hs) ?_
    case h0 => exact ⟨hle1, hL1, OL.nil, List.Perm.refl _⟩
    rintro ⟨D2, v2, ws, u, q2, ds⟩ ⟨hle2, hL2, hU, hpd⟩
    simp only at hle2 hL2 hU hpd
    have hlw := hpd.length_eq
    rw [List.length_append] at hlw
    have hlx : (someV own dir xs).length ≤ 1000 := Nat.le_trans (List.length_filter_le _ _) hn
    have htw : ∀ y ∈ ws, toldH y.h = true := fun y hy => someV_told hd0 (hpd.subset (List.mem_append_right _ hy))
    refine R.sq ?_
    refine R.sq ?_
    refine R.rg ?_
    refine R.mv ?_
    refine R.ll (hL2) Try.runUnderlying24 ?_
    refine R.cm ?_
    refine R.nl ?_
    refine R.hs (e' := [(7, _), (9, _), (39, _)]) ?_
    refine R.cd (fun zc14 => ?_) (fun zc14 => ?_)
    ·
      have hne : ws ≠ [] := by rintro rfl; simp at zc14
      obtain ⟨low, hlm, hlow⟩ := lowV_mem htw hne
      refine Run.skip ?_
      refine Run.block ?_
      refine R.sq ?_
      refine R.rg ?_
      refine R.mv ?_
      refine R.cg Try.call29 (refLow_spec hL2) ?_
      refine R.mv ?_
      refine R.ex ?_
      refine R.ex ?_
      refine R.alA Try.zeroValue36 (fun zb15 hzb15 => ?_)
      refine R.st Try.sizeOf36 ?_
      refine R.as ?_
      refine R.nl ?_
      refine R.hs (e' := [(7, _), (9, _), (10, _)]) ?_
      refine R.sq ?_
      refine R.rg ?_
      refine R.as ?_
      refine R.nl ?_
      refine R.hs (e' := [(7, _), (9, _), (10, _), (12, _)]) ?_
      refine R.sq ?_
      refine R.rg ?_
      refine R.as ?_
      refine R.nl ?_
      refine R.hs (e' := [(7, _), (9, _), (10, _), (12, _), (13, _)]) ?_
      refine R.sq ?_
      refine R.sq ?_
      refine R.rg ?_
      refine R.as ?_
      refine R.nl ?_
      refine R.hs (e' := [(7, _), (9, _), (10, _), (12, _), (13, _), (14, _)]) ?_
      refine Run.block ?_
      refine Run.loop (ι := Nat × Bool × Value × MList) [(7, _), (9, _), (10, _)] (fun p => [(14, .int .i64 (p.1 : Int)), (13, .bool p.2.1), (12, p.2.2.1)]) (fun _ => D2) (fun p => p.2.2.2 ++ ((zb15, .cells (Vw.cells ((lowV ws).getD z0V)).toArray 36 (0, 0)) :: (q2 ++ ((zb1, .cells (Ht.cells own).toArray 23 (0, 0)) :: M)))) (fun p => p.1 ≤ ws.length ∧ p.2.1 = decide (low ∈ ws.take p.1) ∧ OL 7 Vw.cells 36 p.2.2.1 ((ws.take p.1).erase low) p.2.2.2) (fun p => ws.length - p.1) ((0, false, .slice none 0 0, [])) (by repeat (first | exact trivial | refine ⟨rfl, ?_⟩)) ?h0 (by repeat (first | exact trivial | refine ⟨rfl, ?_⟩)) (fun w hs => hs) ?_
      case h0 => exact ⟨Nat.zero_le _, by simp, OL.nil⟩
      rintro ⟨k, dn, r, q3⟩ ⟨hk, hdn, hR⟩
      simp only at hk hdn hR
      refine R.sq ?_
      refine R.sq ?_
      refine R.rg ?_
      refine R.mv ?_
      refine R.mv ?_
      refine R.ll (hL2) Try.runUnderlying24 ?_
      refine R.cm ?_
      refine R.nl ?_
      refine R.hs (e' := [(7, _), (9, _), (10, _), (12, _), (13, _), (14, _), (48, _)]) ?_
      refine R.cd (fun zc16 => ?_) (fun zc16 => ?_)
      ·
        have hltk : k < ws.length := by simp at zc16; omega
        obtain ⟨y, hgy⟩ := get_of_lt hltk
        obtain ⟨b2, o2, hI2, hc2⟩ := hL2.at Vw.len hgy
        have hlenk : ((ws.take k).erase low).length ≤ 1000 := Nat.le_trans List.length_erase_le (by rw [List.length_take]; omega)
        refine Run.skip ?_
        refine R.sq ?_
        refine Run.block ?_
        refine R.sq ?_
        refine R.sq ?_
        rcases Bool.eq_false_or_eq_true (!dn) with zg17 | zg17
        ·
          refine Run.drawC Grow.eq 8 [(7, _), (9, _), (10, _), (12, _), (13, _), (14, _)] mix (by kernel_rfl) (by repeat (first | exact trivial | refine ⟨rfl, ?_⟩)) ?_
          apply TC.val []
          · exact rfl
          · kernel_rfl
          ·
            rintro _ rfl 
            refine R.mv ?_
            refine R.nl ?_
            exact Run.loc rfl rfl rfl
          apply TC.val [0]
          · exact rfl
          · kernel_rfl
          ·
            rintro _ rfl _ rfl
            refine R.nt ?_
            refine R.nl ?_
            exact Run.loc rfl rfl rfl
          apply TC.val [0]
          · exact rfl
          · kernel_rfl
          ·
            rintro _ rfl _ rfl
            refine R.mv ?_
            refine R.nl ?_
            exact Run.loc rfl rfl rfl
          apply TC.val [0]
          · exact rfl
          · kernel_rfl
          ·
            rintro _ rfl _ rfl
            refine R.gY (zg17) ?_
            refine R.mv ?_
            refine R.nl ?_
            exact Run.loc rfl rfl rfl
          apply TC.val [1]
          · exact rfl
          · kernel_rfl
          ·
            rintro _ rfl _ rfl
            refine R.gY (zg17) ?_
            refine R.mv ?_
            refine R.nl ?_
            exact Run.loc rfl rfl rfl
          apply TC.val [2, 1, 0]
          · exact rfl
          · kernel_rfl
          ·
            rintro _ rfl _ rfl _ rfl _ rfl
            refine R.gY (zg17) ?_
            refine R.ix (hI2) Try.runUnderlying24 Try.sizeOf36 ?_
            refine R.nl ?_
            exact Run.loc rfl rfl rfl
          apply TC.val [3, 0]
          · exact rfl
          · kernel_rfl
          ·
            rintro _ rfl _ rfl _ rfl
            refine R.gY (zg17) ?_
            refine R.lAD 7 Try.isAgg36 Try.sizeOf36 ?_
            refine R.nl ?_
            exact Run.loc rfl rfl rfl
          apply TC.val [4]
          · exact rfl
          · kernel_rfl
          ·
            rintro _ rfl _ rfl
            refine R.gY (zg17) ?_
            refine R.lA 7 Try.isAgg36 Try.sizeOf36 ?_ (hc := CsN.mkM (List.mem_append_right _ (.head _)) rfl)
            refine R.nl ?_
            exact Run.loc rfl rfl rfl
          refine TC.fin (by rfl) ?_
          rintro _ rfl _ rfl _ rfl _ rfl _ rfl _ rfl _ rfl _ rfl _ rfl
          refine R.gY (zg17) ?_
          refine R.ea Try.eqGuardType36 (eqAt36 _ _ _ _ _ _ _ _ _ _ _ _ _ _) ?_
          refine R.pT (zg17) ?_
          refine R.nl ?_
          refine R.hs (e' := [(7, _), (9, _), (10, _), (12, _), (13, _), (14, _), (60, _)]) ?_
          refine R.cd (fun zc27 => ?_) (fun zc27 => ?_)
          ·
            have hyl : y = low ∧ dn = false := by rw [Vw.ext']; simp [hlow] at *; simp_all
            have hnm : low ∉ ws.take k := by intro hm; rw [hyl.2] at hdn; simp [hm] at hdn
            have hdn2 : true = decide (low ∈ ws.take (k + 1)) := by rw [take_succ' hgy, hyl.1]; simp
            have hR2 : OL 7 Vw.cells 36 r ((ws.take (k + 1)).erase low) q3 := by rw [take_succ' hgy, hyl.1, List.erase_append_right _ hnm]; simpa [List.erase_of_not_mem hnm] using hR
            refine R.sq ?_
            refine R.rg ?_
            refine R.as ?_
            refine R.nl ?_
            refine R.hs (e' := [(7, _), (9, _), (10, _), (12, _), (13, _), (14, _)]) ?_
            refine Run.exit rfl ?_
            refine R.rg ?_
            refine R.mv ?_
            refine R.ad ?_
            refine R.as ?_
            refine R.nl ?_
            refine R.hs (e' := [(7, _), (9, _), (10, _), (12, _), (13, _), (14, _)]) ?_
            first | exact Run.again (k + 1, dn, v', q') ⟨by simp <;> omega, hdn2, hR2⟩ (by simp <;> omega) (by refine ⟨rfl, rfl, rfl, ?_⟩; repeat (first | exact trivial | refine ⟨rfl, ?_⟩)) (fun w hs => hs.dropMid (a := [_])) | exact Run.again (k + 1, true, r, q3) ⟨by simp <;> omega, hdn2, hR2⟩ (by simp <;> omega) (by refine ⟨rfl, rfl, rfl, ?_⟩; repeat (first | exact trivial | refine ⟨rfl, ?_⟩)) (fun w hs => hs)
          ·
            have hyl : dn = true ∨ y ≠ low := by rw [ne_eq, Vw.ext']; simp [hlow] at *; simp_all
            refine Run.skip ?_
            refine R.rg ?_
            refine R.mv ?_
            refine R.mv ?_
            refine R.mv ?_
            refine R.ix (hI2) Try.runUnderlying24 Try.sizeOf36 ?_
            refine R.lAD 7 Try.isAgg36 Try.sizeOf36 ?_
            refine R.bs zc36 Try.runUnderlying24 Try.sizeOf36 Try.zeroValue36 (fun zb28 hzb28 => ?_)
            refine R.ap Try.underlying24 info36 (hR) (permQ (a := [_])) (Src.lit (List.mem_append_right _ (.head _)) rfl) (by omega) (Vw.ones y) ?_
            intro v' q' hO'
            have hR3 : OL 7 Vw.cells 36 v' ((ws.take k).erase low ++ [y]) q' := OL.snoc hO' rfl
            have hdn2 : dn = decide (low ∈ ws.take (k + 1)) := by rw [take_succ' hgy, hdn]; grind
            have hR2 : OL 7 Vw.cells 36 v' ((ws.take (k + 1)).erase low) q' := by rw [take_succ' hgy, erase_snoc (hyl.imp (fun e => by rw [hdn] at e; simpa using e) id)]; exact hR3
            refine R.as ?_
            refine R.nl ?_
            refine R.hs (e' := [(7, _), (9, _), (10, _), (12, _), (13, _), (14, _)]) ?_
            refine Run.endBlock ?_
            refine R.rg ?_
            refine R.mv ?_
            refine R.ad ?_
            refine R.as ?_
            refine R.nl ?_
            refine R.hs (e' := [(7, _), (9, _), (10, _), (12, _), (13, _), (14, _)]) ?_
            first | exact Run.again (k + 1, dn, v', q') ⟨by simp <;> omega, hdn2, hR2⟩ (by simp <;> omega) (by refine ⟨rfl, rfl, rfl, ?_⟩; repeat (first | exact trivial | refine ⟨rfl, ?_⟩)) (fun w hs => hs.dropMid (a := [_])) | exact Run.again (k + 1, true, r, q3) ⟨by simp <;> omega, hdn2, hR2⟩ (by simp <;> omega) (by refine ⟨rfl, rfl, rfl, ?_⟩; repeat (first | exact trivial | refine ⟨rfl, ?_⟩)) (fun w hs => hs)
        ·
          refine Run.drawC Grow.eq 8 [(7, _), (9, _), (10, _), (12, _), (13, _), (14, _)] mix (by kernel_rfl) (by repeat (first | exact trivial | refine ⟨rfl, ?_⟩)) ?_
          apply TC.val []
          · exact rfl
          · kernel_rfl
          ·
            rintro _ rfl 
            refine R.mv ?_
            refine R.nl ?_
            exact Run.loc rfl rfl rfl
          apply TC.val [0]
          · exact rfl
          · kernel_rfl
          ·
            rintro _ rfl _ rfl
            refine R.nt ?_
            refine R.nl ?_
            exact Run.loc rfl rfl rfl
          apply TC.val [0]
          · exact rfl
          · kernel_rfl
          ·
            rintro _ rfl _ rfl
            refine R.mv ?_
            refine R.nl ?_
            exact Run.loc rfl rfl rfl
          apply TC.val [0]
          · exact rfl
          · kernel_rfl
          ·
            rintro _ rfl _ rfl
            refine R.gF (zg17) ?_
            refine R.nl ?_
            exact Run.loc rfl rfl rfl
          apply TC.val [1]
          · exact rfl
          · kernel_rfl
          ·
            rintro _ rfl _ rfl
            refine R.gF (zg17) ?_
            refine R.nl ?_
            exact Run.loc rfl rfl rfl
          apply TC.val [2, 1, 0]
          · exact rfl
          · kernel_rfl
          ·
            rintro _ rfl _ rfl _ rfl _ rfl
            refine R.gF (zg17) ?_
            refine R.nl ?_
            exact Run.loc rfl rfl rfl
          apply TC.val [3, 0]
          · exact rfl
          · kernel_rfl
          ·
            rintro _ rfl _ rfl _ rfl
            refine R.gF (zg17) ?_
            refine R.nl ?_
            exact Run.loc rfl rfl rfl
          apply TC.val [4]
          · exact rfl
          · kernel_rfl
          ·
            rintro _ rfl _ rfl
            refine R.gF (zg17) ?_
            refine R.nl ?_
            exact Run.loc rfl rfl rfl
          refine TC.fin (by rfl) ?_
          rintro _ rfl _ rfl _ rfl _ rfl _ rfl _ rfl _ rfl _ rfl _ rfl
          refine R.gF (zg17) ?_
          refine R.pF (zg17) ?_
          refine R.nl ?_
          refine R.hs (e' := [(7, _), (9, _), (10, _), (12, _), (13, _), (14, _), (60, _)]) ?_
          refine R.cF (rfl) ?_
          have hyl : dn = true ∨ y ≠ low := by rw [ne_eq, Vw.ext']; simp [hlow] at *; simp_all
          refine Run.skip ?_
          refine R.rg ?_
          refine R.mv ?_
          refine R.mv ?_
          refine R.mv ?_
          refine R.ix (hI2) Try.runUnderlying24 Try.sizeOf36 ?_
          refine R.lAD 7 Try.isAgg36 Try.sizeOf36 ?_
          refine R.bs zc36 Try.runUnderlying24 Try.sizeOf36 Try.zeroValue36 (fun zb38 hzb38 => ?_)
          refine R.ap Try.underlying24 info36 (hR) (permQ (a := [_])) (Src.lit (List.mem_append_right _ (.head _)) rfl) (by omega) (Vw.ones y) ?_
          intro v' q' hO'
          have hR3 : OL 7 Vw.cells 36 v' ((ws.take k).erase low ++ [y]) q' := OL.snoc hO' rfl
          have hdn2 : dn = decide (low ∈ ws.take (k + 1)) := by rw [take_succ' hgy, hdn]; grind
          have hR2 : OL 7 Vw.cells 36 v' ((ws.take (k + 1)).erase low) q' := by rw [take_succ' hgy, erase_snoc (hyl.imp (fun e => by rw [hdn] at e; simpa using e) id)]; exact hR3
          refine R.as ?_
          refine R.nl ?_
          refine R.hs (e' := [(7, _), (9, _), (10, _), (12, _), (13, _), (14, _)]) ?_
          refine Run.endBlock ?_
          refine R.rg ?_
          refine R.mv ?_
          refine R.ad ?_
          refine R.as ?_
          refine R.nl ?_
          refine R.hs (e' := [(7, _), (9, _), (10, _), (12, _), (13, _), (14, _)]) ?_
          first | exact Run.again (k + 1, dn, v', q') ⟨by simp <;> omega, hdn2, hR2⟩ (by simp <;> omega) (by refine ⟨rfl, rfl, rfl, ?_⟩; repeat (first | exact trivial | refine ⟨rfl, ?_⟩)) (fun w hs => hs.dropMid (a := [_])) | exact Run.again (k + 1, true, r, q3) ⟨by simp <;> omega, hdn2, hR2⟩ (by simp <;> omega) (by refine ⟨rfl, rfl, rfl, ?_⟩; repeat (first | exact trivial | refine ⟨rfl, ?_⟩)) (fun w hs => hs)
      ·
        have hzk : ws.take k = ws := by simp at zc16; exact List.take_of_length_le (by omega)
        refine Run.exit rfl ?_
        refine R.sq ?_
        have hrest : (ws.take k).erase low = ws.erase low := by rw [hzk]
        refine R.frO hR (fun D3 hle3 hL3 => ?_)
        refine R.rg ?_
        refine R.mv ?_
        refine R.fa Try.runUnderlying36 Try.sizeOf3 ?_
        refine R.ld Try.isAgg3 ?_
        refine R.bs zc3 Try.runUnderlying45 Try.sizeOf3 Try.zeroValue3 (fun zb39 hzb39 => ?_)
        refine R.ap Try.underlying45 info3 (hU) (permQ (a := [_, _])) (Src.lit (List.mem_append_right _ (.head _)) rfl) (by rw [List.length_map]; omega) (ones rfl) ?_
        intro v' q' hO'
        have hU2 : IR v' (ds.map (·.id) ++ [low.id]) q' := OL.snoc hO' (by rw [hlow]; rfl)
        have hpd2 : ((ds ++ [low]) ++ ws.erase low).Perm (someV own dir xs) := by rw [List.append_assoc]; exact ((List.perm_cons_erase hlm).symm.append_left ds).trans hpd
        refine R.as ?_
        refine R.nl ?_
        refine R.hs (e' := [(9, _), (12, _)]) ?_
        refine R.rg ?_
        refine R.mv ?_
        refine R.as ?_
        refine R.nl ?_
        refine R.hs (e' := [(7, _), (9, _)]) ?_
        refine Run.endBlock ?_
        exact Run.again (D3, r, ws.erase low, v', q', ds ++ [low]) ⟨hle2.mono hle3, by rw [← hrest]; exact hL3, by rw [List.map_append]; exact hU2, hpd2⟩ (by show (ws.erase low).length < ws.length; rw [List.length_erase_of_mem hlm]; have := List.length_pos_of_mem hlm; omega) (by refine ⟨rfl, rfl, ?_⟩; repeat (first | exact trivial | refine ⟨rfl, ?_⟩)) (fun w hs => hs.dropMid (a := [_, _]))
    ·
      have hwe : ws = [] := by simpa using zc14
      refine Run.exit rfl ?_
      refine R.sq ?_
      refine R.rg ?_
      refine R.mv ?_
      refine R.as ?_
      refine R.nl ?_
      refine R.hs (e' := [(6, _)]) ?_
      rw [hwe, List.append_nil] at hpd
      refine R.frO hU (fun D' hle hL => ?_)
      exact R.rk (RV.t .nil) 1 ⟨hle2.mono hle, rfl, ds, hpd, hL⟩
theorem refDowns_spec {g : Gl} {D : Dict} {M : MList} {a : Value} {xs : List Vw} (own : Ht) (hn : xs.length ≤ 1000) (ha : Vws D a xs) :
    Gets Try.prog g 46 [a, .agg (Ht.cells own).toArray] D M (fun v D => ∃ zs : List Vw, zs.Perm (someV own 1 xs) ∧ Ints D v (zs.map (·.id))) := by
  refine Gets.enter Try.func46 rfl Try.ntmps46 ?_
  refine R.sq ?_
  refine R.rg ?_
  refine R.bxA (fun zb1 hzb1 => ?_)
  refine R.as ?_
  refine R.nl ?_
  refine R.hs (e' := [(0, _), (3, _)]) ?_
  refine R.sq ?_
  refine R.rg ?_
  refine R.mv ?_
  refine R.lA 6 Try.isAgg23 Try.sizeOf23 ?_
  refine R.gt Try.call62 (refOf_spec own 1 (by decide) hn ha) (fun zr1_2 zD2 hzD2 hzr1_2 => ?_)
  refine R.as ?_
  refine R.nl ?_
  refine R.hs (e' := [(4, _)]) ?_
  exact R.rk (RV.t .nil) 1 ⟨by assumption, rfl, hzr1_2⟩
end Go.Proofs.Ytgdpjpmjcpieiaa
