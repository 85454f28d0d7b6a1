import Derived.Test.YtgdpjpmjcpieiaaGreatQ8
/- A route that is turned: keep, lose, qry. No condition. -/
namespace Go.Proofs.YtgdpjpmjcpieiaaGreat
open Go
set_option linter.unusedVariables false
set_option linter.unusedSimpArgs false
set_option maxRecDepth 100000
set_option maxHeartbeats 0
/-- what is left when a height was taken for a reason -/
def Tn.told (t : Tn) (h : Ht) (c : Int) : Tn :=
  if c = 4 then ((({ t with r := { t.r with own := h } } : Tn).tell 255).forget ((levelsV t.r.vs).headD z0L)).clear 255 ((levelsV t.r.vs).headD z0L)
  else ({ t with r := { t.r with own := h } } : Tn).tell 255
def Tn.keep (t : Tn) (lost : Bool) : Tn :=
  if t.home || t.r.own.null then t
  else if (caseV t.r.own t.r.vs t.now lost).2.2 ≠ 0 then { t with e := (caseV t.r.own t.r.vs t.now lost).2.2 }
  else if (caseV t.r.own t.r.vs t.now lost).2.1 = 0 then t
  else (t.told (caseV t.r.own t.r.vs t.now lost).1 (caseV t.r.own t.r.vs t.now lost).2.1).miss
theorem detect_one {own : Ht} {xs : List Vw} {now : Int} {lost : Bool} (h0 : (caseV own xs now lost).2.2 = 0) (h4 : (caseV own xs now lost).2.1 = 4) : levelsV xs = [topL xs] ∧ (caseV own xs now lost).1 = nullH own.id ∧ (topL xs).oid = own.id := by
  obtain ⟨h1, h2⟩ := case_is (h := (caseV own xs now lost).1) (c := (caseV own xs now lost).2.1) (e := (caseV own xs now lost).2.2) rfl h0
  cases h2 with
  | stay _ h _ => omega
  | alone _ h _ => omega
  | gen _ h _ _ _ _ => omega
  | prop _ h _ _ _ _ => omega
  | refl _ h _ _ _ _ _ => omega
  | detect h1 _ h3 h4 _ _ => exact ⟨h3, h1, h4⟩
theorem send_len (t : Tn) (to : Int) (o : Ob) : (t.send to o).out.length = t.out.length + 1 := by simp [Tn.send]
theorem told_len (t : Tn) (h : Ht) (c : Int) : (t.told h c).out.length ≤ t.out.length + 2 := by
  unfold Tn.told
  split
  · simp [Tn.clear, Tn.forget, Tn.tell, Tn.send]
  · simp [Tn.tell, Tn.send]
theorem keep_spec {b : Nat} (t : Tn) (lost : Bool) (hn : t.out.length ≤ 5000) (hvn : t.r.vs.length ≤ 1000) : MS 100 [.pointer (some ⟨b, 0, none⟩), .bool lost] b t (t.keep lost) := by
  refine MS.of fun g D Z q sv so hV hO => ?_
  refine Spec.enter Tryz.func100 rfl Tryz.ntmps100 rfl ?_; refine R.sq ?_; refine R.sq ?_; refine R.rg ?_; refine R.mv ?_; refine R.cg Tryz.call95 (home_spec (t := t) (.head _)) ?_; refine R.mv ?_; refine R.gd (fun zg1 => ?_) (fun zg1 => ?_)
  ·refine R.mv ?_; refine R.gY (zg1) ?_
   first | refine R.nc ?_ | refine R.ncf ?_
   refine R.gY (zg1) ?_; refine R.fa Tryz.runUnderlying78 Tryz.sizeOf26 ?_; refine R.gY (zg1) ?_; refine R.fa Tryz.runUnderlying26 Tryz.sizeOf23 ?_; refine R.gY (zg1) ?_; refine R.fa Tryz.runUnderlying23 Tryz.sizeOf4 ?_; refine R.gY (zg1) ?_; refine R.ld Tryz.isAgg4 ?_; refine R.pF (zg1) ?_; refine R.nl ?_; refine R.hs (e' := [(0, _), (1, _), (17, _)]) ?_; refine R.cd (fun zc2 => ?_) (fun zc2 => ?_)
   ·
    have hs : t.keep lost = t := by rw [Tn.keep, if_pos]; simp_all
    rw [hs]
    first
    | exact R.rk .nil 0 ⟨_ :: q, ⟨rfl, Le.rfl', sv, so, q, hV, hO, rfl⟩, rfl⟩
    | exact R.rk .nil 1 ⟨_ :: q, ⟨rfl, Le.rfl', sv, so, q, hV, hO, rfl⟩, rfl⟩
    | exact R.fn (u := .tuple #[]) .nil 1 ⟨_ :: q5, ⟨rfl, hl5, sv5, so5, q5, hV5, hO5, rfl⟩, rfl⟩
   ·
    have hb : ¬ (t.home || t.r.own.null) = true := by simp_all
    refine Run.skip ?_; refine R.sq ?_; refine Run.drawY Grow.eq 23 20 21 (fun _ => (fun v M' => ∃ b2, v = .pointer (some ⟨b2, 0, none⟩) ∧ M' = (b2, .cells (Ht.cells z0H).toArray 23 (0, 0)) :: (tb b sv so t :: (q ++ Z)))) (fun _ => (fun _ _ => False)) (fun _ => (fun v w M' => ∃ b2, v = .pointer (some ⟨b2, 0, none⟩) ∧ M' = (b2, .cells (Ht.cells (caseV t.r.own t.r.vs t.now lost).1).toArray 23 (0, 0)) :: (tb b sv so t :: (q ++ Z)))) [(0, _), (1, _)] mix (by kernel_rfl) (by repeat (first | exact trivial | refine ⟨rfl, ?_⟩)) (fun _ _ _ _ _ h => h) (fun _ _ _ _ _ h => h) (fun _ _ _ _ _ _ h => h) ?_; apply TY.late []; exact rfl; kernel_rfl
    ·rintro _ zM hzM rfl ; refine R.mv ?_; refine R.nl ?_; exact Run.loc rfl rfl rfl
    apply TY.late [0]; exact rfl; kernel_rfl
    ·rintro _ zM hzM rfl _ rfl
     first | refine R.nc ?_ | refine R.ncf ?_
     refine R.nl ?_; exact Run.loc rfl rfl rfl
    apply TY.late [0]; exact rfl; kernel_rfl
    ·rintro _ zM hzM rfl _ rfl; refine R.fa Tryz.runUnderlying78 Tryz.sizeOf26 ?_; refine R.nl ?_; exact Run.loc rfl rfl rfl
    apply TY.late [0]; exact rfl; kernel_rfl
    ·rintro _ zM hzM rfl _ rfl; refine R.fa Tryz.runUnderlying26 Tryz.sizeOf23 ?_; refine R.nl ?_; exact Run.loc rfl rfl rfl
    apply TY.late [0]; exact rfl; kernel_rfl
    ·rintro _ zM hzM rfl _ rfl; refine R.lA 6 Tryz.isAgg23 Tryz.sizeOf23 ?_ (hc := CsN.mkM (show tb b sv so t ∈ zM from late2 hzM) rfl); refine R.nl ?_; exact Run.loc rfl rfl rfl
    apply TY.late []; exact rfl; kernel_rfl
    ·rintro _ zM hzM rfl ; refine R.mv ?_; refine R.nl ?_; exact Run.loc rfl rfl rfl
    apply TY.late [0]; exact rfl; kernel_rfl
    ·rintro _ zM hzM rfl _ rfl
     first | refine R.nc ?_ | refine R.ncf ?_
     refine R.nl ?_; exact Run.loc rfl rfl rfl
    apply TY.late [0]; exact rfl; kernel_rfl
    ·rintro _ zM hzM rfl _ rfl; refine R.fa Tryz.runUnderlying78 Tryz.sizeOf26 ?_; refine R.nl ?_; exact Run.loc rfl rfl rfl
    apply TY.late [0]; exact rfl; kernel_rfl
    ·rintro _ zM hzM rfl _ rfl; refine R.fa Tryz.runUnderlying26 Tryz.sizeOf24 ?_; refine R.nl ?_; exact Run.loc rfl rfl rfl
    apply TY.late [0]; exact rfl; kernel_rfl
    ·rintro _ zM hzM rfl _ rfl; refine R.ld Tryz.isAgg24 ?_ (hc := Cs.mkM (n := 1) (show tb b sv so t ∈ zM from late2 hzM) rfl); refine R.nl ?_; exact Run.loc rfl rfl rfl
    apply TY.late []; exact rfl; kernel_rfl
    ·rintro _ zM hzM rfl ; refine R.mv ?_; refine R.nl ?_; exact Run.loc rfl rfl rfl
    apply TY.late [0]; exact rfl; kernel_rfl
    ·rintro _ zM hzM rfl _ rfl
     first | refine R.nc ?_ | refine R.ncf ?_
     refine R.nl ?_; exact Run.loc rfl rfl rfl
    apply TY.late [0]; exact rfl; kernel_rfl
    ·rintro _ zM hzM rfl _ rfl; refine R.fa Tryz.runUnderlying78 Tryz.sizeOf3 ?_; refine R.nl ?_; exact Run.loc rfl rfl rfl
    apply TY.late [0]; exact rfl; kernel_rfl
    ·rintro _ zM hzM rfl _ rfl; refine R.ld Tryz.isAgg3 ?_ (hc := Cs.mkM (n := 1) (show tb b sv so t ∈ zM from late2 hzM) rfl); refine R.nl ?_; exact Run.loc rfl rfl rfl
    apply TY.late []; exact rfl; kernel_rfl
    ·rintro _ zM hzM rfl ; refine R.mv ?_; refine R.nl ?_; exact Run.loc rfl rfl rfl
    apply TY.late [10, 5, 1, 0]; exact rfl; kernel_rfl
    ·rintro _ zM hzM rfl _ rfl _ rfl _ rfl _ rfl; refine R.cg Tryz.call124 (case_spec t.r.own t.now lost hvn hV) ?_; refine R.nl ?_; exact Run.loc rfl rfl rfl
    apply TY.late [0]; exact rfl; kernel_rfl
    ·rintro _ zM hzM rfl _ rfl; refine R.mv ?_; refine R.nl ?_; exact Run.loc rfl rfl rfl
    apply TY.late [0]; exact rfl; kernel_rfl
    ·rintro _ zM hzM rfl _ rfl; refine R.ex ?_; refine R.nl ?_; exact Run.loc rfl rfl rfl
    apply TY.late [1]; exact rfl; kernel_rfl
    ·rintro _ zM hzM rfl _ rfl; refine R.ex ?_; refine R.nl ?_; exact Run.loc rfl rfl rfl
    apply TY.late [2]; exact rfl; kernel_rfl
    ·rintro _ zM hzM rfl _ rfl; refine R.ex ?_; refine R.nl ?_; exact Run.loc rfl rfl rfl
    refine TY.eff1 (dx := (some 4)) [] (by exact rfl) (by exact rfl) (by kernel_rfl) ?_ ?_ ?_
    ·rintro _  rfl ; refine R.alA Tryz.zeroValue23 (fun b4 hb4 => ?_); refine R.nl ?_; exact Run.effv rfl rfl (⟨b4, rfl, rfl⟩)
    · exact .inl (.inr (fun _ _ _ h => h))
    refine TY.eff2 (dy := (none)) [3] (by exact rfl) (by exact rfl) (by kernel_rfl) ?_ ?_ ?_
    ·rintro _ zv zM ⟨b4, rfl, rfl⟩ rfl _ rfl; refine R.st Tryz.sizeOf23 ?_; refine R.nl ?_; exact Run.effn rfl (⟨b4, rfl, rfl⟩)
    · exact .inl (by kernel_rfl)
    apply TY.late [3]; exact rfl; kernel_rfl
    ·rintro _ zM hzM rfl _ rfl; refine R.as ?_; refine R.nl ?_; exact Run.loc rfl rfl rfl
    refine TY.fin2 (dx := (some 4)) (dy := (none)) (by rfl) (by kernel_rfl) (by exact rfl) (by exact rfl) ?_; rintro _ zv zv2 zM ⟨b4, rfl, rfl⟩ rfl _ rfl   _ rfl _ rfl _ rfl _ rfl _ rfl _ rfl _ rfl _ rfl _ rfl _ rfl _ rfl _ rfl _ rfl _ rfl _ rfl _ rfl _ rfl _ rfl _ rfl _ rfl; refine R.as ?_; refine R.nl ?_; refine R.hs (e' := [(0, _), (4, _), (5, _), (6, _)]) ?_; refine R.sq ?_; refine R.sq ?_; refine R.rg ?_; refine R.mv ?_; refine R.cm ?_; refine R.nl ?_; refine R.hs (e' := [(0, _), (4, _), (5, _), (6, _), (39, _)]) ?_; refine R.cd (fun zc28 => ?_) (fun zc28 => ?_)
    ·
     have he : (caseV t.r.own t.r.vs t.now lost).2.2 ≠ 0 := by simpa using zc28
     have hs : t.keep lost = { t with e := (caseV t.r.own t.r.vs t.now lost).2.2 } := by rw [Tn.keep, if_neg hb, if_pos he]
     refine R.sq ?_; refine R.rg ?_; refine R.mv ?_; refine R.mv ?_
     first | refine R.nc ?_ | refine R.ncf ?_
     refine R.fa Tryz.runUnderlying78 Tryz.sizeOf35 ?_; refine R.st Tryz.sizeOf35 ?_; refine R.nl ?_; refine R.hs (e' := []) ?_
     rw [hs]
     first
     | exact R.rk .nil 0 ⟨_ :: q, ⟨rfl, Le.rfl', sv, so, q, hV, hO, rfl⟩, rfl⟩
     | exact R.rk .nil 1 ⟨_ :: q, ⟨rfl, Le.rfl', sv, so, q, hV, hO, rfl⟩, rfl⟩
     | exact R.fn (u := .tuple #[]) .nil 1 ⟨_ :: q5, ⟨rfl, hl5, sv5, so5, q5, hV5, hO5, rfl⟩, rfl⟩
    ·
     have he : ¬ (caseV t.r.own t.r.vs t.now lost).2.2 ≠ 0 := by simpa using zc28
     refine Run.skip ?_; refine R.sq ?_; refine R.sq ?_; refine R.rg ?_; refine R.mv ?_; refine R.cm ?_; refine R.nl ?_; refine R.hs (e' := [(0, _), (4, _), (5, _), (45, _)]) ?_; refine R.cd (fun zc29 => ?_) (fun zc29 => ?_)
     ·
      have hc : (caseV t.r.own t.r.vs t.now lost).2.1 = 0 := by simpa using zc29
      have hs : t.keep lost = t := by rw [Tn.keep, if_neg hb, if_neg he, if_pos hc]
      rw [hs]
      first
      | exact R.rk .nil 0 ⟨_ :: q, ⟨rfl, Le.rfl', sv, so, q, hV, hO, rfl⟩, rfl⟩
      | exact R.rk .nil 1 ⟨_ :: q, ⟨rfl, Le.rfl', sv, so, q, hV, hO, rfl⟩, rfl⟩
      | exact R.fn (u := .tuple #[]) .nil 1 ⟨_ :: q5, ⟨rfl, hl5, sv5, so5, q5, hV5, hO5, rfl⟩, rfl⟩
     ·
      have hc : ¬ (caseV t.r.own t.r.vs t.now lost).2.1 = 0 := by simpa using zc29
      have hs : t.keep lost = (t.told (caseV t.r.own t.r.vs t.now lost).1 (caseV t.r.own t.r.vs t.now lost).2.1).miss := by rw [Tn.keep, if_neg hb, if_neg he, if_neg hc]
      generalize hh : (caseV t.r.own t.r.vs t.now lost).1 = h at hs ⊢
      refine Run.skip ?_; refine R.sq ?_; refine R.rg ?_; refine R.mv ?_; refine R.lA 6 Tryz.isAgg23 Tryz.sizeOf23 ?_
      first | refine R.nc ?_ | refine R.ncf ?_
      refine R.fa Tryz.runUnderlying78 Tryz.sizeOf26 ?_; refine R.fa Tryz.runUnderlying26 Tryz.sizeOf23 ?_; refine R.st Tryz.sizeOf23 ?_; refine R.nl ?_; refine R.hs (e' := [(0, _), (5, _)]) ?_; refine R.sq ?_; refine R.rg ?_; refine R.mv ?_; refine R.ca Tryz.call58 ((tell_spec ({ t with r := { t.r with own := h } } : Tn) 255 (by show t.out.length ≤ 10000; omega)).at hV hO [(b4, .cells (Ht.cells h).toArray 23 (0, 0))] Z) ?_; rintro _ D1 _ ⟨rfl, hl1, sv1, so1, q1, hV1, hO1, rfl⟩; refine R.nl ?_; refine R.hs (e' := [(0, _), (5, _)]) ?_; refine R.sq ?_; refine R.sq ?_; refine R.rg ?_; refine R.mv ?_; refine R.cm ?_; refine R.nl ?_; refine R.hs (e' := [(0, _), (54, _)]) ?_; refine R.cd (fun zc30 => ?_) (fun zc30 => ?_)
      ·
       have h4 : (caseV t.r.own t.r.vs t.now lost).2.1 = 4 := by simpa using zc30
       obtain ⟨hone, _, _⟩ := detect_one (by simpa using he) h4
       have hhd : (levelsV t.r.vs).headD z0L = topL t.r.vs := by rw [hone]; rfl
       have hto : t.told h (caseV t.r.own t.r.vs t.now lost).2.1 = ((({ t with r := { t.r with own := h } } : Tn).tell 255).forget (topL t.r.vs)).clear 255 (topL t.r.vs) := by rw [Tn.told, if_pos h4, hhd]
       refine R.sq ?_; refine R.rg ?_; refine R.mv ?_
       first | refine R.nc ?_ | refine R.ncf ?_
       refine R.fa Tryz.runUnderlying78 Tryz.sizeOf26 ?_; refine R.fa Tryz.runUnderlying26 Tryz.sizeOf24 ?_; refine R.ld Tryz.isAgg24 ?_; refine R.gt Tryz.call125 (levels_spec hvn hV1) (fun zr8_5 zD31 hzD31 hzr8_5 => ?_)
       try replace hl1 := hl1.mono hzD31
       try replace hV1 := hV1.mono hzD31
       obtain ⟨b3, o3, hI3, hc3⟩ := hzr8_5.at Lv.len (i := 0) (x := topL t.r.vs) (by show (levelsV t.r.vs)[0]? = _; rw [hone]; rfl)
       refine R.ix hI3 Tryz.runUnderlying116 Tryz.sizeOf28 ?_; refine R.lAD 3 Tryz.isAgg28 Tryz.sizeOf28 ?_; refine R.alA Tryz.zeroValue28 (fun b7 hb7 => ?_); refine R.st Tryz.sizeOf28 ?_; refine R.nl ?_; refine R.hs (e' := [(0, _), (7, _)]) ?_; refine R.sq ?_; refine R.rg ?_; refine R.mv ?_; refine R.lA 3 Tryz.isAgg28 Tryz.sizeOf28 ?_; refine R.ca Tryz.call101 (turnforget_spec (({ t with r := { t.r with own := h } } : Tn).tell 255) (topL t.r.vs) hvn hV1 hO1 [(b7, .cells (Lv.cells (topL t.r.vs)).toArray 28 (0, 0)), (b4, .cells (Ht.cells h).toArray 23 (0, 0))] Z) ?_; rintro _ D3 _ ⟨hl3, _, sv3, hV3, rfl⟩; refine R.nl ?_; refine R.hs (e' := [(0, _), (7, _)]) ?_; refine R.rg ?_; refine R.mv ?_; refine R.lA 3 Tryz.isAgg28 Tryz.sizeOf28 ?_
       refine R.ca Tryz.call103 ((clear_spec ((({ t with r := { t.r with own := h } } : Tn).tell 255).forget (topL t.r.vs)) 255 (topL t.r.vs) (by show (t.out ++ [_]).length ≤ 10000; simp; omega)).at hV3 hO1 [(b7, .cells (Lv.cells (topL t.r.vs)).toArray 28 (0, 0)), (b4, .cells (Ht.cells h).toArray 23 (0, 0))] Z) ?_; rintro _ D4 _ ⟨rfl, hl4, sv4, so4, q4, hV4, hO4, rfl⟩
       replace hl4 := (hl1.trans hl3).trans hl4
       rw [← hto] at hV4 hO4 ⊢
       refine R.nl ?_; refine Run.st (fun w hs => hs.drop 1) ?_; refine R.hs (e' := [(0, _)]) ?_; refine R.rg ?_; refine R.mv ?_; refine R.ca Tryz.call54 ((miss_spec (t.told h (caseV t.r.own t.r.vs t.now lost).2.1) (by have := told_len t h (caseV t.r.own t.r.vs t.now lost).2.1; omega)).at hV4 hO4 [(b4, .cells (Ht.cells h).toArray 23 (0, 0))] Z) ?_; rintro _ D5 _ ⟨rfl, hl5, sv5, so5, q5, hV5, hO5, rfl⟩
       replace hl5 := hl4.trans hl5
       refine R.nl ?_; refine R.hs (e' := []) ?_
       rw [hs]
       first
       | exact R.rk .nil 0 ⟨_ :: q, ⟨rfl, Le.rfl', sv, so, q, hV, hO, rfl⟩, rfl⟩
       | exact R.rk .nil 1 ⟨_ :: q, ⟨rfl, Le.rfl', sv, so, q, hV, hO, rfl⟩, rfl⟩
       | exact R.fn (u := .tuple #[]) .nil 1 ⟨_ :: q5, ⟨rfl, hl5, sv5, so5, q5, hV5, hO5, rfl⟩, rfl⟩
      ·
       have h4 : ¬ (caseV t.r.own t.r.vs t.now lost).2.1 = 4 := by simpa using zc30
       have hto : ({ t with r := { t.r with own := h } } : Tn).tell 255 = t.told h (caseV t.r.own t.r.vs t.now lost).2.1 := by rw [Tn.told, if_neg h4]
       have hl4 := hl1
       have hV4 := hV1
       have hO4 := hO1
       rw [hto] at hV4 hO4 ⊢
       refine Run.skip ?_; refine R.rg ?_; refine R.mv ?_; refine R.ca Tryz.call54 ((miss_spec (t.told h (caseV t.r.own t.r.vs t.now lost).2.1) (by have := told_len t h (caseV t.r.own t.r.vs t.now lost).2.1; omega)).at hV4 hO4 [(b4, .cells (Ht.cells h).toArray 23 (0, 0))] Z) ?_; rintro _ D5 _ ⟨rfl, hl5, sv5, so5, q5, hV5, hO5, rfl⟩
       replace hl5 := hl4.trans hl5
       refine R.nl ?_; refine R.hs (e' := []) ?_
       rw [hs]
       first
       | exact R.rk .nil 0 ⟨_ :: q, ⟨rfl, Le.rfl', sv, so, q, hV, hO, rfl⟩, rfl⟩
       | exact R.rk .nil 1 ⟨_ :: q, ⟨rfl, Le.rfl', sv, so, q, hV, hO, rfl⟩, rfl⟩
       | exact R.fn (u := .tuple #[]) .nil 1 ⟨_ :: q5, ⟨rfl, hl5, sv5, so5, q5, hV5, hO5, rfl⟩, rfl⟩
  ·refine R.gF (zg1) ?_; refine R.gF (zg1) ?_; refine R.gF (zg1) ?_; refine R.gF (zg1) ?_; refine R.gF (zg1) ?_; refine R.pT (zg1) ?_; refine R.nl ?_; refine R.hs (e' := [(0, _), (1, _), (17, _)]) ?_; refine R.cT (rfl) ?_
   have hs : t.keep lost = t := by rw [Tn.keep, if_pos]; simp_all
   rw [hs]
   first
   | exact R.rk .nil 0 ⟨_ :: q, ⟨rfl, Le.rfl', sv, so, q, hV, hO, rfl⟩, rfl⟩
   | exact R.rk .nil 1 ⟨_ :: q, ⟨rfl, Le.rfl', sv, so, q, hV, hO, rfl⟩, rfl⟩
   | exact R.fn (u := .tuple #[]) .nil 1 ⟨_ :: q5, ⟨rfl, hl5, sv5, so5, q5, hV5, hO5, rfl⟩, rfl⟩
end Go.Proofs.YtgdpjpmjcpieiaaGreat

/- Numbers that go round: which one comes ahead; by the program and by the document. No condition. -/
namespace Go.Proofs.YtgdpjpmjcpieiaaGreat
open Go
set_option linter.unusedVariables false
set_option linter.unusedSimpArgs false
set_option maxRecDepth 100000
set_option maxHeartbeats 0
abbrev numC (x : Int) : List Value := [Value.int .u16 x]
abbrev Nums (D : Dict) (v : Value) (xs : List Int) : Prop := Lst D 1 numC v xs
theorem u16_wrap (n : Int) : IntKind.u16.wrap n = n % 65536 := by simp [IntKind.wrap, IntKind.bits, IntKind.signed]
def farI (a b : Int) : Int := (b % 65536 - a % 65536) % 65536
def lessN (a b : Int) : Bool := decide (0 < farI a b) && decide (farI a b < 32768)
theorem of16_spec {g : Gl} {D : Dict} {M : MList} {v : Value} {xs : List Int} (hn : xs.length ≤ 1000) (hS : Src D M 1 v xs.length (ints xs)) :
    Gets Tryz.prog g 160 [v] D M (fun u D' => Nums D' u (xs.map (· % 65536))) := by
  have hS0 := hS
  obtain ⟨A, c, rfl, _⟩ := hS.2
  refine Gets.enter Tryz.func160 rfl Tryz.ntmps160 ?_; refine R.sq ?_; refine R.rg ?_; refine R.as ?_; refine R.nl ?_; refine R.hs (e' := [(0, _)]) ?_; refine R.sq ?_; refine R.rg ?_; refine R.mv ?_; refine R.ln Tryz.runUnderlying56 ?_
  have hmb : (Tryz.t144).bytes * xs.length ≤ 281474976710656 := Nat.le_trans (Nat.mul_le_mul (show (Tryz.t144).bytes ≤ 8 by decide) hn) (by decide)
  refine Run.makeSlice (zc := zc144) (ti := Tryz.t144) (len := 0) (cap := xs.length) Tryz.runUnderlying141 (fun w => by simp [typeInfo, info144]) Tryz.sizeOf144 Tryz.zeroValue144 rfl rfl rfl (Nat.zero_le _) hmb (by omega) (by decide) rfl (fun b0 hb0 => ?_)
  have hO0 : OL 1 numC 144 (.slice (some ⟨b0, 0, none⟩) 0 xs.length) ([] : List Int) [(b0, .cells (reps xs.length zc144).toArray 144 (0, 0))] := ⟨by simp, .inr ⟨b0, xs.length, _, rfl, rfl, Nat.zero_le _, by simp [maxLen]; omega, by simp [reps], by simp⟩⟩
  refine R.as ?_; refine R.nl ?_; refine R.hs (e' := [(0, _), (3, _)]) ?_; refine R.sq ?_; refine R.sq ?_; refine R.rg ?_; refine R.mv ?_; refine R.ln Tryz.runUnderlying56 ?_; refine R.mv ?_; refine R.nl ?_; refine R.hs (e' := [(3, _), (9, _), (10, _), (11, _)]) ?_; refine Run.block ?_; refine Run.loop (ι := Nat × Value × MList) [(9, _), (10, _)] (fun p => [(11, .int .i64 (p.1 : Int)), (3, p.2.1)]) (fun _ => D) (fun p => p.2.2 ++ M) (fun p => p.1 ≤ xs.length ∧ OL 1 numC 144 p.2.1 ((xs.take p.1).map (· % 65536)) p.2.2) (fun p => xs.length - p.1) ((0, .slice (some ⟨b0, 0, none⟩) 0 xs.length, [(b0, .cells (reps xs.length zc144).toArray 144 (0, 0))])) (by repeat (first | exact trivial | refine ⟨rfl, ?_⟩)) ?h0 (by repeat (first | exact trivial | refine ⟨rfl, ?_⟩)) (fun w hs => hs) ?_
  case h0 => exact ⟨Nat.zero_le _, hO0⟩
  rintro ⟨i, w, q⟩ ⟨hi, hU⟩
  simp only at hi hU
  refine R.sq ?_; refine R.rg ?_; refine R.cm ?_; refine R.nl ?_; refine R.hs (e' := [(3, _), (9, _), (10, _), (11, _), (12, _)]) ?_; refine R.sq ?_; refine R.cd (fun zc1 => ?_) (fun zc1 => ?_)
  ·
   have hlt : i < xs.length := by simp at zc1; omega
   obtain ⟨x, hgx⟩ := get_of_lt hlt
   have hSq : Src D (q ++ M) 1 (.slice A xs.length c) xs.length (ints xs) := ⟨hS0.1, A, c, rfl, fun hp => by
     obtain ⟨_, A', c', e1, hA⟩ := hS0
     injection e1 with e1 _ _
     obtain ⟨b, off, h1, h2⟩ := hA hp
     exact ⟨b, off, by rw [e1]; exact h1, by obtain ⟨cc, T, fr, h3, h4⟩ := h2; exact ⟨cc, T, fr, h3.imp id (List.mem_append_right _), h4⟩⟩⟩
   obtain ⟨b1, o1, hI1, hc1⟩ := hSq.at (cells := fun x => [Value.int .i64 x]) (ints_flat xs) (fun _ => rfl) hgx
   have hlen : ((xs.take i).map (· % 65536)).length ≤ 1000 := by rw [List.length_map, List.length_take]; omega
   refine Run.skip ?_; refine R.sq ?_; refine Run.block ?_; refine R.sq ?_; refine R.rg ?_; refine R.ix (hI1) Tryz.runUnderlying56 Tryz.sizeOf3 ?_; refine R.ld Tryz.isAgg3 ?_ (hc := hc1.cs); refine R.as ?_; refine R.nl ?_; refine R.hs (e' := [(3, _), (5, _), (9, _), (10, _), (11, _)]) ?_; refine R.rg ?_; refine R.mv ?_; refine R.mv ?_; refine R.cv Tryz.runUnderlying3 Tryz.runUnderlying144 (u16_wrap x) ?_; refine R.bs zc144 Tryz.runUnderlying141 Tryz.sizeOf144 Tryz.zeroValue144 (fun zb2 hzb2 => ?_); refine R.ap Tryz.underlying141 info144 (hU) (permQ (a := [_])) (Src.lit (List.mem_append_right _ (.head _)) rfl) (by omega) (ones rfl) ?_; intro v' q' hO'
   have hU2 : OL 1 numC 144 v' ((xs.take i).map (· % 65536) ++ [x % 65536]) q' := OL.snoc hO' rfl
   refine R.as ?_; refine R.nl ?_; refine R.hs (e' := [(3, _), (9, _), (10, _), (11, _)]) ?_; refine Run.endBlock ?_; refine R.rg ?_; refine R.ad ?_; refine R.mv ?_; refine R.nl ?_; refine R.hs (e' := [(3, _), (9, _), (10, _), (11, _)]) ?_; exact Run.again (i + 1, v', q') ⟨by simp <;> omega, by rw [take_succ' hgx, List.map_append]; exact hU2⟩ (by simp <;> omega) (by refine ⟨rfl, rfl, ?_⟩; repeat (first | exact trivial | refine ⟨rfl, ?_⟩)) (fun w hs => hs.dropMid (a := [_]))
  ·
   have hz : xs.take i = xs := by simp at zc1; exact List.take_of_length_le (by omega)
   refine Run.exit rfl ?_; refine R.sq ?_; refine R.rg ?_; refine R.mv ?_; refine R.as ?_; refine R.nl ?_; refine R.hs (e' := [(2, _)]) ?_
   rw [hz] at hU
   refine R.frO hU (fun D' hle hL => ?_); exact R.rk (RV.t .nil) 0 ⟨hle, rfl, hL⟩
theorem far_spec {g : Gl} {D : Dict} {M : MList} (a b : Int) : Gives Tryz.prog g 128 [.int .i64 a, .int .i64 b] D M (.int .i64 (farI a b)) := by
  have h1 : 0 ≤ farI a b ∧ farI a b < 65536 := by unfold farI; omega
  refine Gives.enter Tryz.func128 rfl Tryz.ntmps128 ?_; refine R.sq ?_; refine R.rg ?_; refine R.as ?_; refine R.nl ?_; refine R.hs (e' := [(0, _), (1, _)]) ?_; refine R.sq ?_; refine R.rg ?_; refine R.mv ?_; refine R.mv ?_; refine R.bs zc3 Tryz.runUnderlying56 Tryz.sizeOf3 Tryz.zeroValue3 (fun b3 hb3 => ?_); refine R.gt Tryz.call160 (of16_spec (xs := [a, b]) (by simp) (Src.lit (.head _) rfl)) (fun zr1_3 zD2 hzD2 hzr1_3 => ?_); refine R.as ?_; refine R.nl ?_
  obtain ⟨c1, o1, hI1, hc1⟩ := hzr1_3.at (i := 1) (x := b % 65536) (fun _ => rfl) rfl
  obtain ⟨c0, o0, hI0, hc0⟩ := hzr1_3.at (i := 0) (x := a % 65536) (fun _ => rfl) rfl
  refine R.hs (e' := [(5, _)]) ?_; refine R.sq ?_; refine Run.drawC Grow.eq 6 [(5, _)] mix (by kernel_rfl) (by repeat (first | exact trivial | refine ⟨rfl, ?_⟩)) ?_; apply TC.val []; exact rfl; kernel_rfl
  ·rintro _ rfl ; refine R.mv ?_; refine R.nl ?_; exact Run.loc rfl rfl rfl
  apply TC.val [0]; exact rfl; kernel_rfl
  ·rintro _ rfl _ rfl; refine R.ix (hI1) Tryz.runUnderlying141 Tryz.sizeOf144 ?_; refine R.nl ?_; exact Run.loc rfl rfl rfl
  apply TC.val [0]; exact rfl; kernel_rfl
  ·rintro _ rfl _ rfl; refine R.ldD Tryz.isAgg144 ?_; refine R.nl ?_; exact Run.loc rfl rfl rfl
  apply TC.val []; exact rfl; kernel_rfl
  ·rintro _ rfl ; refine R.mv ?_; refine R.nl ?_; exact Run.loc rfl rfl rfl
  apply TC.val [0]; exact rfl; kernel_rfl
  ·rintro _ rfl _ rfl; refine R.ix (hI0) Tryz.runUnderlying141 Tryz.sizeOf144 ?_; refine R.nl ?_; exact Run.loc rfl rfl rfl
  apply TC.val [0]; exact rfl; kernel_rfl
  ·rintro _ rfl _ rfl; refine R.ldD Tryz.isAgg144 ?_; refine R.nl ?_; exact Run.loc rfl rfl rfl
  refine TC.fin (by rfl) ?_; rintro _ rfl _ rfl _ rfl _ rfl _ rfl _ rfl _ rfl; refine R.sbw ((show IntKind.u16.wrap (b % 65536 - a % 65536) = farI a b from u16_wrap _)) ?_; refine R.cv Tryz.runUnderlying144 Tryz.runUnderlying3 ((show IntKind.i64.wrap (farI a b) = farI a b from wrap_i64 (by omega) (by omega))) ?_; refine R.as ?_; refine R.nl ?_; refine R.hs (e' := [(4, _)]) ?_; exact Run.st (fun w hs => hs.le (by assumption)) (R.rt (RV.t .nil) 1 rfl)
theorem less16_spec {g : Gl} {D : Dict} {M : MList} (a b : Int) : Gives Tryz.prog g 104 [.int .i64 a, .int .i64 b] D M (.bool (lessN a b)) := by
  refine Gives.enter Tryz.func104 rfl Tryz.ntmps104 ?_; refine R.sq ?_; refine R.rg ?_; refine R.as ?_; refine R.nl ?_; refine R.hs (e' := [(0, _), (1, _)]) ?_; refine R.sq ?_; refine R.rg ?_; refine R.mv ?_; refine R.mv ?_; refine R.cg Tryz.call128 (far_spec a b) ?_; refine R.as ?_; refine R.nl ?_; refine R.hs (e' := [(5, _)]) ?_; refine R.sq ?_; refine R.rg ?_; refine R.mv ?_; refine R.cm ?_; refine R.mv ?_; refine R.gd (fun zg1 => ?_) (fun zg1 => ?_)
  ·refine R.mv ?_; refine R.gY (zg1) ?_; refine R.cm ?_; refine R.pT (zg1) ?_; refine R.as ?_; refine R.nl ?_; refine R.hs (e' := [(4, _)]) ?_; refine R.rt (RV.t .nil) 0 (congrArg Value.bool ?_)
   simp only [lessN]
   first | (simp_all; done) | (simp_all; omega)
  ·refine R.gF (zg1) ?_; refine R.pF (zg1) ?_; refine R.as ?_; refine R.nl ?_; refine R.hs (e' := [(4, _)]) ?_; refine R.rt (RV.t .nil) 0 (congrArg Value.bool ?_)
   simp only [lessN]
   first | (simp_all; done) | (simp_all; omega)
theorem tmod16 (a : Int) : -65536 < a.tmod 65536 ∧ a.tmod 65536 < 65536 ∧ (if a.tmod 65536 < 0 then a.tmod 65536 + 65536 else a.tmod 65536) = a % 65536 := by
  have h1 := Int.tmod_add_mul_tdiv a 65536
  have h2 : -65536 < a.tmod 65536 := by
    have h4 := Int.tmod_lt_of_pos (-a) (b := 65536) (by decide)
    rw [Int.neg_tmod] at h4
    omega
  have h3 : a.tmod 65536 < 65536 := Int.tmod_lt_of_pos a (by decide)
  refine ⟨h2, h3, ?_⟩
  split <;> omega
theorem left_spec {g : Gl} {D : Dict} {M : MList} (a : Int) : Gives Tryz.prog g 164 [.int .i64 a] D M (.int .i64 (a % 65536)) := by
  obtain ⟨h1, h2, h3⟩ := tmod16 a
  refine Gives.enter Tryz.func164 rfl Tryz.ntmps164 ?_; refine R.sq ?_; refine R.rg ?_; refine R.as ?_; refine R.nl ?_; refine R.hs (e' := [(0, _)]) ?_; refine R.sq ?_; refine R.rg ?_; refine R.mv ?_; refine R.rm (rfl) ?_; refine R.as ?_; refine R.nl ?_; refine R.hs (e' := [(3, _)]) ?_; refine R.sq ?_; refine R.sq ?_; refine R.rg ?_; refine R.mv ?_; refine R.cm ?_; refine R.nl ?_; refine R.hs (e' := [(3, _), (7, _)]) ?_; refine R.cd (fun zc1 => ?_) (fun zc1 => ?_)
  ·
   have hc : a.tmod 65536 < 0 := by simpa using zc1
   refine R.rg ?_; refine R.mv ?_; refine R.ad ?_; refine R.as ?_; refine R.nl ?_; refine R.hs (e' := [(3, _)]) ?_; refine R.sq ?_; refine R.rg ?_; refine R.mv ?_; refine R.as ?_; refine R.nl ?_; refine R.hs (e' := [(2, _)]) ?_; refine R.rt (RV.t .nil) 0 (congrArg (Value.int .i64) ?_)
   first | rw [if_pos hc] at h3 | rw [if_neg hc] at h3
   exact h3
  ·
   have hc : ¬ a.tmod 65536 < 0 := by simpa using zc1
   refine Run.skip ?_; refine R.sq ?_; refine R.rg ?_; refine R.mv ?_; refine R.as ?_; refine R.nl ?_; refine R.hs (e' := [(2, _)]) ?_; refine R.rt (RV.t .nil) 0 (congrArg (Value.int .i64) ?_)
   first | rw [if_pos hc] at h3 | rw [if_neg hc] at h3
   exact h3
theorem rfar_spec {g : Gl} {D : Dict} {M : MList} (a b : Int) : Gives Tryz.prog g 135 [.int .i64 a, .int .i64 b] D M (.int .i64 (farI a b)) := by
  refine Gives.enter Tryz.func135 rfl Tryz.ntmps135 ?_; refine R.sq ?_; refine R.rg ?_; refine R.as ?_; refine R.nl ?_; refine R.hs (e' := [(0, _), (1, _)]) ?_; refine R.sq ?_; refine R.rg ?_; refine R.mv ?_; refine R.cg Tryz.call164 (left_spec b) ?_; refine R.mv ?_; refine R.cg Tryz.call164 (left_spec a) ?_; refine R.sb ?_; refine R.cg Tryz.call164 (left_spec _) ?_; refine R.as ?_; refine R.nl ?_; refine R.hs (e' := [(4, _)]) ?_; exact R.rt (RV.t .nil) 0 rfl
theorem rless_spec {g : Gl} {D : Dict} {M : MList} (a b : Int) : Gives Tryz.prog g 113 [.int .i64 a, .int .i64 b] D M (.bool (lessN a b)) := by
  refine Gives.enter Tryz.func113 rfl Tryz.ntmps113 ?_; refine R.sq ?_; refine R.rg ?_; refine R.as ?_; refine R.nl ?_; refine R.hs (e' := [(0, _), (1, _)]) ?_; refine R.sq ?_; refine R.rg ?_; refine R.mv ?_; refine R.mv ?_; refine R.cg Tryz.call135 (rfar_spec a b) ?_; refine R.cm ?_; refine R.mv ?_; refine R.gd (fun zg1 => ?_) (fun zg1 => ?_)
  ·refine R.mv ?_; refine R.gY (zg1) ?_; refine R.mv ?_; refine R.gY (zg1) ?_; refine R.cg Tryz.call135 (rfar_spec a b) ?_; refine R.gY (zg1) ?_; refine R.cm ?_; refine R.pT (zg1) ?_; refine R.as ?_; refine R.nl ?_; refine R.hs (e' := [(4, _)]) ?_; refine R.rt (RV.t .nil) 0 (congrArg Value.bool ?_)
   simp only [lessN] at *; grind
  ·refine R.gF (zg1) ?_; refine R.gF (zg1) ?_; refine R.gF (zg1) ?_; refine R.pF (zg1) ?_; refine R.as ?_; refine R.nl ?_; refine R.hs (e' := [(4, _)]) ?_; refine R.rt (RV.t .nil) 0 (congrArg Value.bool ?_)
   simp only [lessN] at *; grind
end Go.Proofs.YtgdpjpmjcpieiaaGreat

/- A route that is turned: what is heard. No condition. -/
namespace Go.Proofs.YtgdpjpmjcpieiaaGreat
open Go
set_option linter.unusedVariables false
set_option linter.unusedSimpArgs false
set_option maxRecDepth 100000
set_option maxHeartbeats 0
def Tn.lose (t : Tn) : Tn := if t.r.own.null then t.miss else t.keep true
theorem lose_spec {b : Nat} (t : Tn) (hn : t.out.length ≤ 5000) (hvn : t.r.vs.length ≤ 1000) : MS 63 [.pointer (some ⟨b, 0, none⟩)] b t t.lose := by
  refine MS.of fun g D Z q sv so hV hO => ?_
  refine Spec.enter Tryz.func63 rfl Tryz.ntmps63 rfl ?_; refine R.sq ?_; refine R.sq ?_; refine R.rg ?_; refine R.mv ?_
  first | refine R.nc ?_ | refine R.ncf ?_
  refine R.fa Tryz.runUnderlying78 Tryz.sizeOf26 ?_; refine R.fa Tryz.runUnderlying26 Tryz.sizeOf23 ?_; refine R.fa Tryz.runUnderlying23 Tryz.sizeOf4 ?_; refine R.ld Tryz.isAgg4 ?_; refine R.nl ?_; refine R.hs (e' := [(0, _), (7, _)]) ?_; refine R.cd (fun zc1 => ?_) (fun zc1 => ?_)
  ·
   have hs : t.lose = t.miss := by rw [Tn.lose, if_pos zc1]
   refine R.sq ?_; refine R.rg ?_; refine R.mv ?_; refine R.ca Tryz.call54 ((miss_spec t (by omega)).at hV hO [] Z) ?_; rintro _ D1 _ ⟨rfl, hl1, sv1, so1, q1, hV1, hO1, rfl⟩; refine R.nl ?_; refine R.hs (e' := []) ?_
   rw [hs]
   first
   | exact R.rk .nil 0 ⟨_ :: q1, ⟨rfl, hl1, sv1, so1, q1, hV1, hO1, rfl⟩, rfl⟩
   | exact R.fn (u := .tuple #[]) .nil 0 ⟨_ :: q1, ⟨rfl, hl1, sv1, so1, q1, hV1, hO1, rfl⟩, rfl⟩
  ·
   have hs : t.lose = t.keep true := by rw [Tn.lose, zc1]; rfl
   refine Run.skip ?_; refine R.rg ?_; refine R.mv ?_; refine R.ca Tryz.call100 ((keep_spec t true hn hvn).at hV hO [] Z) ?_; rintro _ D1 _ ⟨rfl, hl1, sv1, so1, q1, hV1, hO1, rfl⟩; refine R.nl ?_; refine R.hs (e' := []) ?_
   rw [hs]
   first
   | exact R.rk .nil 0 ⟨_ :: q1, ⟨rfl, hl1, sv1, so1, q1, hV1, hO1, rfl⟩, rfl⟩
   | exact R.fn (u := .tuple #[]) .nil 0 ⟨_ :: q1, ⟨rfl, hl1, sv1, so1, q1, hV1, hO1, rfl⟩, rfl⟩
def Tn.qry (t : Tn) (src : Int) : Tn := if t.r.own.null then (if t.r.asked then t else t.seek) else t.tell src
theorem qry_spec {b : Nat} (t : Tn) (src : Int) (o : Ob) (hn : t.out.length ≤ 5000) : MS 66 [.pointer (some ⟨b, 0, none⟩), .int .i64 src, .agg (Ob.cells o).toArray] b t (t.qry src) := by
  refine MS.of fun g D Z q sv so hV hO => ?_
  refine Spec.enter Tryz.func66 rfl Tryz.ntmps66 rfl ?_; refine R.sq ?_; refine R.rg ?_; refine R.bxA (fun b5 hb5 => ?_); refine R.nl ?_; refine R.hs (e' := [(0, _), (1, _)]) ?_; refine R.sq ?_; refine R.sq ?_; refine R.rg ?_; refine R.mv ?_
  first | refine R.nc ?_ | refine R.ncf ?_
  refine R.fa Tryz.runUnderlying78 Tryz.sizeOf26 ?_; refine R.fa Tryz.runUnderlying26 Tryz.sizeOf23 ?_; refine R.fa Tryz.runUnderlying23 Tryz.sizeOf4 ?_; refine R.ld Tryz.isAgg4 ?_; refine R.nl ?_; refine R.hs (e' := [(0, _), (1, _), (11, _)]) ?_; refine R.cd (fun zc2 => ?_) (fun zc2 => ?_)
  ·
   have h1 : t.r.own.null = true := zc2
   refine R.sq ?_; refine R.sq ?_; refine R.rg ?_; refine R.mv ?_
   first | refine R.nc ?_ | refine R.ncf ?_
   refine R.fa Tryz.runUnderlying78 Tryz.sizeOf26 ?_; refine R.fa Tryz.runUnderlying26 Tryz.sizeOf4 ?_; refine R.ld Tryz.isAgg4 ?_; refine R.nt ?_; refine R.nl ?_; refine R.hs (e' := [(0, _), (17, _)]) ?_; refine R.cd (fun zc3 => ?_) (fun zc3 => ?_)
   ·
    have h2 : ¬ t.r.asked = true := by simpa using zc3
    have hs : t.qry src = t.seek := by rw [Tn.qry, if_pos h1, if_neg h2]
    refine R.rg ?_; refine R.mv ?_; refine R.ca Tryz.call96 ((seek_spec t (by omega)).at hV hO [(b5, .cells (Ob.cells o).toArray 30 (0, 0))] Z) ?_; rintro _ D1 _ ⟨rfl, hl1, sv1, so1, q1, hV1, hO1, rfl⟩; refine R.nl ?_; refine R.hs (e' := []) ?_
    rw [hs]
    first
    | exact R.rk .nil 1 ⟨_ :: q1, ⟨rfl, hl1, sv1, so1, q1, hV1, hO1, rfl⟩, rfl⟩
    | exact R.rk .nil 1 ⟨_ :: q, ⟨rfl, Le.rfl', sv, so, q, hV, hO, rfl⟩, rfl⟩
    | exact R.fn (u := .tuple #[]) .nil 1 ⟨_ :: q1, ⟨rfl, hl1, sv1, so1, q1, hV1, hO1, rfl⟩, rfl⟩
   ·
    have h2 : t.r.asked = true := by simpa using zc3
    have hs : t.qry src = t := by rw [Tn.qry, if_pos h1, if_pos h2]
    refine Run.skip ?_
    rw [hs]
    first
    | exact R.rk .nil 1 ⟨_ :: q1, ⟨rfl, hl1, sv1, so1, q1, hV1, hO1, rfl⟩, rfl⟩
    | exact R.rk .nil 1 ⟨_ :: q, ⟨rfl, Le.rfl', sv, so, q, hV, hO, rfl⟩, rfl⟩
    | exact R.fn (u := .tuple #[]) .nil 1 ⟨_ :: q1, ⟨rfl, hl1, sv1, so1, q1, hV1, hO1, rfl⟩, rfl⟩
  ·
   have h1 : ¬ t.r.own.null = true := by simp [zc2]
   have hs : t.qry src = t.tell src := by rw [Tn.qry, if_neg h1]
   refine Run.skip ?_; refine R.rg ?_; refine R.mv ?_; refine R.mv ?_; refine R.ca Tryz.call58 ((tell_spec t src (by omega)).at hV hO [(b5, .cells (Ob.cells o).toArray 30 (0, 0))] Z) ?_; rintro _ D1 _ ⟨rfl, hl1, sv1, so1, q1, hV1, hO1, rfl⟩; refine R.nl ?_; refine R.hs (e' := []) ?_
   rw [hs]
   first
   | exact R.rk .nil 1 ⟨_ :: q1, ⟨rfl, hl1, sv1, so1, q1, hV1, hO1, rfl⟩, rfl⟩
   | exact R.rk .nil 1 ⟨_ :: q, ⟨rfl, Le.rfl', sv, so, q, hV, hO, rfl⟩, rfl⟩
   | exact R.fn (u := .tuple #[]) .nil 1 ⟨_ :: q1, ⟨rfl, hl1, sv1, so1, q1, hV1, hO1, rfl⟩, rfl⟩
def okSet (t : Tn) (id : Int) (h : Ht) : Bool := okVs t.r.vs && okV ⟨id, h⟩
def Tn.set (t : Tn) (id : Int) (h : Ht) : Tn := { t with r := { t.r with vs := if okSet t id h = true then setV t.r.vs id h else [] }, e := errA (okSet t id h) }
def Tn.upd (t : Tn) (src : Int) (h : Ht) : Tn :=
  if (t.set src h).e ≠ 0 ∨ t.home = true then t.set src h
  else if t.r.own.null = false then (t.set src h).keep false
  else if t.r.asked then (t.set src h).seek else (t.set src h).miss
theorem set_len (t : Tn) (id : Int) (h : Ht) : (t.set id h).r.vs.length ≤ t.r.vs.length + 1 := by
  unfold Tn.set
  simp only
  split
  · unfold setV
    rw [List.length_append, List.length_cons]
    have h1 : ∀ l : List Vw, (l.filter (fun x => decide (x.id < id))).length + (l.filter (fun x => decide (id < x.id))).length ≤ l.length := by
      intro l
      induction l with
      | nil => simp
      | cons a r ih =>
        by_cases h2 : a.id < id <;> by_cases h3 : id < a.id
        · omega
        · rw [List.filter_cons_of_pos (by simpa using h2), List.filter_cons_of_neg (by simpa using h3)]; simp; omega
        · rw [List.filter_cons_of_neg (by simpa using h2), List.filter_cons_of_pos (by simpa using h3)]; simp; omega
        · rw [List.filter_cons_of_neg (by simpa using h2), List.filter_cons_of_neg (by simpa using h3)]; simp; omega
    have := h1 t.r.vs
    omega
  · simp
theorem upd_spec {b : Nat} (t : Tn) (src : Int) (o : Ob) (hn : t.out.length ≤ 5000) (hvn : t.r.vs.length ≤ 999) : MS 67 [.pointer (some ⟨b, 0, none⟩), .int .i64 src, .agg (Ob.cells o).toArray] b t (t.upd src o.h) := by
  refine MS.of fun g D Z q sv so hV hO => ?_
  have hle : Le D D := Le.rfl'
  have hvs := set_len t src o.h
  refine Spec.enter Tryz.func67 rfl Tryz.ntmps67 rfl ?_; refine R.sq ?_; refine R.rg ?_; refine R.bxA (fun b5 hb5 => ?_); refine R.nl ?_; refine R.hs (e' := [(0, _), (1, _), (5, _)]) ?_; refine R.sq ?_; refine Run.drawY Grow.le 18 17 21 (fun D v M' => ∃ w, Vws D w (t.set src o.h).r.vs ∧ M' = (b5, .cells (Ob.cells o).toArray 30 (0, 0)) :: tb b w so { t with r := { t.r with vs := (t.set src o.h).r.vs } } :: (q ++ Z)) (fun _ _ _ => False) (fun _ _ _ _ => False) [(0, _), (1, _), (5, _)] mix (by kernel_rfl) (by repeat (first | exact trivial | refine ⟨rfl, ?_⟩)) (fun _ _ _ _ hR ⟨w, h1, h2⟩ => ⟨w, h1.mono hR, h2⟩) (fun _ _ _ _ _ h => h) (fun _ _ _ _ _ _ h => h) ?_; apply TY.val []; exact rfl; kernel_rfl
  · exact (.inr (fun _ _ _ h => h))
  ·rintro zD2  hzD2 
   try replace hle := hle.mono hzD2
   try replace hV := hV.mono hzD2
   refine R.mv ?_; refine R.nl ?_; exact Run.loc rfl Le.rfl' rfl
  apply TY.late []; exact rfl; kernel_rfl
  ·rintro zD3 zM hzM hzD3 
   try replace hle := hle.mono hzD3
   try replace hV := hV.mono hzD3
   refine R.mv ?_; refine R.nl ?_; exact Run.loc rfl Le.rfl' rfl
  apply TY.val []; exact rfl; kernel_rfl
  · exact (.inr (fun _ _ _ h => h))
  ·rintro zD4  hzD4 
   try replace hle := hle.mono hzD4
   try replace hV := hV.mono hzD4
   refine R.mv ?_; refine R.nl ?_; exact Run.loc rfl Le.rfl' rfl
  apply TY.val [0]; exact rfl; kernel_rfl
  · exact (.inr (fun _ _ _ h => h))
  ·rintro zD5  hzD5 _ rfl
   try replace hle := hle.mono hzD5
   try replace hV := hV.mono hzD5
   first | refine R.nc ?_ | refine R.ncf ?_
   refine R.nl ?_; exact Run.loc rfl Le.rfl' rfl
  apply TY.val [0]; exact rfl; kernel_rfl
  · exact (.inr (fun _ _ _ h => h))
  ·rintro zD6  hzD6 _ rfl
   try replace hle := hle.mono hzD6
   try replace hV := hV.mono hzD6
   refine R.fa Tryz.runUnderlying78 Tryz.sizeOf26 ?_; refine R.nl ?_; exact Run.loc rfl Le.rfl' rfl
  apply TY.val [0]; exact rfl; kernel_rfl
  · exact (.inr (fun _ _ _ h => h))
  ·rintro zD7  hzD7 _ rfl
   try replace hle := hle.mono hzD7
   try replace hV := hV.mono hzD7
   refine R.fa Tryz.runUnderlying26 Tryz.sizeOf24 ?_; refine R.nl ?_; exact Run.loc rfl Le.rfl' rfl
  apply TY.val [0]; exact rfl; kernel_rfl
  · exact (.inr (fun _ _ _ h => h))
  ·rintro zD8  hzD8 _ rfl
   try replace hle := hle.mono hzD8
   try replace hV := hV.mono hzD8
   refine R.ld Tryz.isAgg24 ?_; refine R.nl ?_; exact Run.loc rfl Le.rfl' rfl
  apply TY.val []; exact rfl; kernel_rfl
  · exact (.inr (fun _ _ _ h => h))
  ·rintro zD9  hzD9 
   try replace hle := hle.mono hzD9
   try replace hV := hV.mono hzD9
   refine R.mv ?_; refine R.nl ?_; exact Run.loc rfl Le.rfl' rfl
  apply TY.val []; exact rfl; kernel_rfl
  · exact (.inr (fun _ _ _ h => h))
  ·rintro zD10  hzD10 
   try replace hle := hle.mono hzD10
   try replace hV := hV.mono hzD10
   refine R.fa Tryz.runUnderlying30 Tryz.sizeOf23 ?_; refine R.nl ?_; exact Run.loc rfl Le.rfl' rfl
  apply TY.val [0]; exact rfl; kernel_rfl
  · exact (.inr (fun _ _ _ h => h))
  ·rintro zD11  hzD11 _ rfl
   try replace hle := hle.mono hzD11
   try replace hV := hV.mono hzD11
   refine R.lA 6 Tryz.isAgg23 Tryz.sizeOf23 ?_; refine R.nl ?_; exact Run.loc rfl Le.rfl' rfl
  apply TY.fctM [3, 2, 0]; exact rfl; kernel_rfl
  · exact (.inr (fun _ _ _ h => h))
  ·rintro zD12  hzD12 _ rfl _ rfl _ rfl
   try replace hle := hle.mono hzD12
   try replace hV := hV.mono hzD12
   refine R.gt Tryz.call57 (set_spec src o.h hvn hV) (fun zr1_10 zD13 hzD13 hzr1_10 => ?_)
   try replace hle := hle.mono hzD13
   try replace hV := hV.mono hzD13
   refine R.nl ?_; exact Run.loc rfl hzD13 hzr1_10
  · first | exact fun _ _ _ hR h => h.mono hR | exact fun _ _ _ hR ⟨w, h1, h2⟩ => ⟨w, h1, h2.mono hR⟩
  refine TY.fct [0] (by exact rfl) (by kernel_rfl) (.inr (fun _ _ _ h => h)) (fun v D' => ∃ w, v = .tuple #[w, .int .i64 (t.set src o.h).e] ∧ Vws D' w (t.set src o.h).r.vs) (fun _ _ _ hR ⟨w, h1, h2⟩ => ⟨w, h1, h2.mono hR⟩) ?_ ?_
  ·rintro zD14  hzD14 zr1_10 hzr1_10
   try replace hle := hle.mono hzD14
   try replace hV := hV.mono hzD14
   refine R.mv ?_; refine R.nl ?_; exact Run.loc rfl Le.rfl' hzr1_10
  refine TY.fct [0] (by exact rfl) (by kernel_rfl) (.inr (fun _ _ _ h => h)) (fun v D' => Vws D' v (t.set src o.h).r.vs) (fun _ _ _ hR h => h.mono hR) ?_ ?_
  ·rintro zD15  hzD15 _ ⟨w11, rfl, hw11⟩
   try replace hle := hle.mono hzD15
   try replace hV := hV.mono hzD15
   refine R.ex ?_; refine R.nl ?_; exact Run.loc rfl Le.rfl' hw11
  apply TY.late [1]; exact rfl; kernel_rfl
  ·rintro zD16 zM hzM hzD16 _ ⟨w11, rfl, hw11⟩
   try replace hle := hle.mono hzD16
   try replace hV := hV.mono hzD16
   refine R.ex ?_; refine R.nl ?_; exact Run.loc rfl Le.rfl' rfl
  apply TY.val [13]; exact rfl; kernel_rfl
  · exact (.inr (fun _ _ _ h => h))
  ·rintro zD17  hzD17 _ rfl
   try replace hle := hle.mono hzD17
   try replace hV := hV.mono hzD17
   first | refine R.nc ?_ | refine R.ncf ?_
   refine R.nl ?_; exact Run.loc rfl Le.rfl' rfl
  apply TY.val [0]; exact rfl; kernel_rfl
  · exact (.inr (fun _ _ _ h => h))
  ·rintro zD18  hzD18 _ rfl
   try replace hle := hle.mono hzD18
   try replace hV := hV.mono hzD18
   refine R.fa Tryz.runUnderlying78 Tryz.sizeOf26 ?_; refine R.nl ?_; exact Run.loc rfl Le.rfl' rfl
  apply TY.val [0]; exact rfl; kernel_rfl
  · exact (.inr (fun _ _ _ h => h))
  ·rintro zD19  hzD19 _ rfl
   try replace hle := hle.mono hzD19
   try replace hV := hV.mono hzD19
   refine R.fa Tryz.runUnderlying26 Tryz.sizeOf24 ?_; refine R.nl ?_; exact Run.loc rfl Le.rfl' rfl
  refine TY.eff1 (dx := (none)) [4, 0] (by exact rfl) (by exact rfl) (by kernel_rfl) ?_ ?_ ?_
  ·rintro zD20  hzD20 w12 hw12 _ rfl
   try replace hle := hle.mono hzD20
   try replace hV := hV.mono hzD20
   obtain ⟨A9, c9, hv9, _, _⟩ := hw12.form
   subst hv9
   refine R.st Tryz.sizeOf24 ?_; refine R.nl ?_; exact Run.effn Le.rfl' (⟨_, hw12, rfl⟩)
  · exact .inl (.inr (fun _ _ _ h => h))
  refine TY.fin1 (dx := (none)) (by rfl) (by kernel_rfl) (by exact rfl) ?_; rintro zD21 zv zM ⟨w, hw, rfl⟩ hzD21  _ rfl _ rfl _ rfl _ rfl w12 hw12 _ ⟨w11, rfl, hw11⟩ zr1_10 hzr1_10 _ rfl _ rfl _ rfl _ rfl _ rfl _ rfl _ rfl _ rfl _ rfl _ rfl
  try replace hle := hle.mono hzD21
  try replace hV := hV.mono hzD21
  first | refine R.nc ?_ | refine R.ncf ?_
  refine R.fa Tryz.runUnderlying78 Tryz.sizeOf35 ?_; refine R.st Tryz.sizeOf35 ?_; refine R.nl ?_; refine R.hs (e' := [(0, _)]) ?_; refine Run.block ?_; refine R.sq ?_; refine R.rg ?_; refine R.mv ?_
  first | refine R.nc ?_ | refine R.ncf ?_
  refine R.fa Tryz.runUnderlying78 Tryz.sizeOf35 ?_; refine R.ld Tryz.isAgg35 ?_; refine R.cm ?_; refine R.mv ?_; refine R.gd (fun zg22 => ?_) (fun zg22 => ?_)
  ·refine R.mv ?_; refine R.gY (zg22) ?_; refine R.cg Tryz.call95 (home_spec (t := t.set src o.h) (.tail _ (.head _))) ?_; refine R.pF (zg22) ?_; refine R.as ?_; refine R.nl ?_; refine R.hs (e' := [(0, _), (27, _)]) ?_; refine R.cd (fun zc23 => ?_) (fun zc23 => ?_)
   ·
    have hA : (t.set src o.h).e ≠ 0 ∨ t.home = true := by first | exact .inl (by simpa using zg22) | exact .inr zc23
    have hs : t.upd src o.h = t.set src o.h := by rw [Tn.upd, if_pos hA]
    refine Run.skip ?_; refine Run.endBlock ?_
    rw [hs]
    first
    | exact R.fn (u := .tuple #[]) .nil 1 ⟨_ :: q1, ⟨rfl, hle.trans hl1, sv1, so1, q1, hV1, hO1, rfl⟩, rfl⟩
    | exact R.fn (u := .tuple #[]) .nil 1 ⟨_ :: q, ⟨rfl, hle, w, so, q, hw, hO, rfl⟩, rfl⟩
   ·
    have hA : ¬ ((t.set src o.h).e ≠ 0 ∨ t.home = true) := by
      rintro (h | h)
      · exact absurd h (by simpa using zg22)
      · exact absurd h (by have h3 : t.home = false := zc23; simp [h3])
    refine R.sq ?_; refine R.rg ?_; refine R.mv ?_
    first | refine R.nc ?_ | refine R.ncf ?_
    refine R.fa Tryz.runUnderlying78 Tryz.sizeOf26 ?_; refine R.fa Tryz.runUnderlying26 Tryz.sizeOf23 ?_; refine R.fa Tryz.runUnderlying23 Tryz.sizeOf4 ?_; refine R.ld Tryz.isAgg4 ?_; refine R.nt ?_; refine R.as ?_; refine R.nl ?_; refine R.hs (e' := [(0, _), (37, _)]) ?_; refine R.cd (fun zc24 => ?_) (fun zc24 => ?_)
    ·
     have h1 : t.r.own.null = false := by simpa using zc24
     have hs : t.upd src o.h = (t.set src o.h).keep false := by rw [Tn.upd, if_neg hA, if_pos h1]
     refine R.rg ?_; refine R.mv ?_; refine R.ca Tryz.call100 ((keep_spec (t.set src o.h) false hn (by omega)).at hw hO [(b5, .cells (Ob.cells o).toArray 30 (0, 0))] Z) ?_; rintro _ D1 _ ⟨rfl, hl1, sv1, so1, q1, hV1, hO1, rfl⟩; refine R.nl ?_; refine R.hs (e' := []) ?_; refine Run.endBlock ?_
     rw [hs]
     first
     | exact R.fn (u := .tuple #[]) .nil 1 ⟨_ :: q1, ⟨rfl, hle.trans hl1, sv1, so1, q1, hV1, hO1, rfl⟩, rfl⟩
     | exact R.fn (u := .tuple #[]) .nil 1 ⟨_ :: q, ⟨rfl, hle, w, so, q, hw, hO, rfl⟩, rfl⟩
    ·
     have h1 : ¬ t.r.own.null = false := by simpa using zc24
     refine R.sq ?_; refine R.rg ?_; refine R.mv ?_
     first | refine R.nc ?_ | refine R.ncf ?_
     refine R.fa Tryz.runUnderlying78 Tryz.sizeOf26 ?_; refine R.fa Tryz.runUnderlying26 Tryz.sizeOf4 ?_; refine R.ld Tryz.isAgg4 ?_; refine R.as ?_; refine R.nl ?_; refine R.hs (e' := [(0, _), (47, _)]) ?_; refine R.cd (fun zc25 => ?_) (fun zc25 => ?_)
     ·
      have h2 : t.r.asked = true := zc25
      have hs : t.upd src o.h = (t.set src o.h).seek := by rw [Tn.upd, if_neg hA, if_neg h1, if_pos h2]
      refine R.rg ?_; refine R.mv ?_; refine R.ca Tryz.call96 ((seek_spec (t.set src o.h) (by show t.out.length ≤ 10000; omega)).at hw hO [(b5, .cells (Ob.cells o).toArray 30 (0, 0))] Z) ?_; rintro _ D1 _ ⟨rfl, hl1, sv1, so1, q1, hV1, hO1, rfl⟩; refine R.nl ?_; refine R.hs (e' := []) ?_; refine Run.endBlock ?_
      rw [hs]
      first
      | exact R.fn (u := .tuple #[]) .nil 1 ⟨_ :: q1, ⟨rfl, hle.trans hl1, sv1, so1, q1, hV1, hO1, rfl⟩, rfl⟩
      | exact R.fn (u := .tuple #[]) .nil 1 ⟨_ :: q, ⟨rfl, hle, w, so, q, hw, hO, rfl⟩, rfl⟩
     ·
      have h3 : t.r.asked = false := zc25
      have h2 : ¬ t.r.asked = true := by simp [h3]
      have hs : t.upd src o.h = (t.set src o.h).miss := by rw [Tn.upd, if_neg hA, if_neg h1, if_neg h2]
      refine R.rg ?_; refine R.mv ?_; refine R.ca Tryz.call54 ((miss_spec (t.set src o.h) (by show t.out.length ≤ 10000; omega)).at hw hO [(b5, .cells (Ob.cells o).toArray 30 (0, 0))] Z) ?_; rintro _ D1 _ ⟨rfl, hl1, sv1, so1, q1, hV1, hO1, rfl⟩; refine R.nl ?_; refine R.hs (e' := []) ?_; refine Run.endBlock ?_
      rw [hs]
      first
      | exact R.fn (u := .tuple #[]) .nil 1 ⟨_ :: q1, ⟨rfl, hle.trans hl1, sv1, so1, q1, hV1, hO1, rfl⟩, rfl⟩
      | exact R.fn (u := .tuple #[]) .nil 1 ⟨_ :: q, ⟨rfl, hle, w, so, q, hw, hO, rfl⟩, rfl⟩
  ·refine R.gF (zg22) ?_; refine R.pT (zg22) ?_; refine R.as ?_; refine R.nl ?_; refine R.hs (e' := [(0, _), (27, _)]) ?_; refine R.cT (rfl) ?_
   have hA : (t.set src o.h).e ≠ 0 ∨ t.home = true := by first | exact .inl (by simpa using zg22) | exact .inr zg0
   have hs : t.upd src o.h = t.set src o.h := by rw [Tn.upd, if_pos hA]
   refine Run.skip ?_; refine Run.endBlock ?_
   rw [hs]
   first
   | exact R.fn (u := .tuple #[]) .nil 1 ⟨_ :: q1, ⟨rfl, hle.trans hl1, sv1, so1, q1, hV1, hO1, rfl⟩, rfl⟩
   | exact R.fn (u := .tuple #[]) .nil 1 ⟨_ :: q, ⟨rfl, hle, w, so, q, hw, hO, rfl⟩, rfl⟩
end Go.Proofs.YtgdpjpmjcpieiaaGreat

/- A route that is turned: levels that lead nowhere, refreshes. No condition. -/
namespace Go.Proofs.YtgdpjpmjcpieiaaGreat
open Go
set_option linter.unusedVariables false
set_option linter.unusedSimpArgs false
set_option maxRecDepth 100000
set_option maxHeartbeats 0
def Tn.clears (t : Tn) (ids : List Int) (l : Lv) : Tn := ids.foldl (fun t id => t.clear id l) t
def Tn.clr (t : Tn) (l : Lv) : Tn :=
  if !t.home && !t.r.own.null && decide (lvlH t.r.own = l) then (({ t.forget l with r := { (t.forget l).r with own := nullH t.r.me } } : Tn).clear 255 l).miss
  else ((t.forget l).clears (goneV t.r.vs l t.r.dest) l).lose
theorem clears_succ {t : Tn} {ids : List Int} {l : Lv} {i : Nat} {x : Int} (hx : ids[i]? = some x) : t.clears (ids.take (i + 1)) l = (t.clears (ids.take i) l).clear x l := by
  rw [take_succ' hx, Tn.clears, List.foldl_append]; rfl
theorem clears_len (l : Lv) : ∀ (ids : List Int) (t : Tn), (t.clears ids l).out.length = t.out.length + ids.length ∧ (t.clears ids l).r = t.r
  | [], t => ⟨rfl, rfl⟩
  | x :: r, t => by
    obtain ⟨h1, h2⟩ := clears_len l r (t.clear x l)
    have h3 : t.clears (x :: r) l = (t.clear x l).clears r l := rfl
    rw [h3, h1, h2]
    refine ⟨?_, rfl⟩
    simp [Tn.clear, Tn.send]; omega
theorem clr_spec {b : Nat} (t : Tn) (src : Int) (o : Ob) (hn : t.out.length ≤ 1000) (hvn : t.r.vs.length ≤ 1000) : MS 68 [.pointer (some ⟨b, 0, none⟩), .int .i64 src, .agg (Ob.cells o).toArray] b t (t.clr o.l) := by
  refine MS.of fun g D Z q sv so hV hO => ?_
  have hgl := gone_len t.r.vs o.l t.r.dest
  have hfl : (t.forget o.l).r.vs.length ≤ 1000 := by simp [Tn.forget, forgetV]; omega
  refine Spec.enter Tryz.func68 rfl Tryz.ntmps68 rfl ?_; refine R.sq ?_; refine R.rg ?_; refine R.bxA (fun b5 hb5 => ?_); refine R.nl ?_; refine R.hs (e' := [(0, _), (5, _)]) ?_; refine R.sq ?_; refine R.rg ?_; refine R.mv ?_; refine R.fa Tryz.runUnderlying30 Tryz.sizeOf28 ?_; refine R.lA 3 Tryz.isAgg28 Tryz.sizeOf28 ?_; refine R.ca Tryz.call101 (turnforget_spec t o.l hvn hV hO [(b5, .cells (Ob.cells o).toArray 30 (0, 0))] Z) ?_; rintro row D1 _ ⟨hl1, hI, sv1, hV1, rfl⟩
  obtain ⟨A7, c7, hrow, _, _⟩ := hI.form
  subst hrow
  refine R.as ?_; refine R.nl ?_; refine R.hs (e' := [(0, _), (5, _), (6, _)]) ?_; refine R.sq ?_; refine R.sq ?_
  rcases Bool.eq_false_or_eq_true (!(t.forget o.l).home) with zg2 | zg2
  ·
   rcases Bool.eq_false_or_eq_true (!t.r.own.null) with zg3 | zg3
   ·refine Run.drawC Grow.eq 21 [(0, _), (5, _), (6, _)] mix (by kernel_rfl) (by repeat (first | exact trivial | refine ⟨rfl, ?_⟩)) ?_; apply TC.val []; exact rfl; kernel_rfl
    ·rintro _  rfl ; refine R.mv ?_; refine R.nl ?_; exact Run.loc rfl rfl rfl
    apply TC.val [0]; exact rfl; kernel_rfl
    ·rintro _  rfl _ rfl; refine R.cg Tryz.call95 (home_spec (t := t.forget o.l) (.tail _ (.head _))) ?_; refine R.nl ?_; exact Run.loc rfl rfl rfl
    apply TC.val [0]; exact rfl; kernel_rfl
    ·rintro _  rfl _ rfl; refine R.nt ?_; refine R.nl ?_; exact Run.loc rfl rfl rfl
    apply TC.val [0]; exact rfl; kernel_rfl
    ·rintro _  rfl _ rfl; refine R.mv ?_; refine R.nl ?_; exact Run.loc rfl rfl rfl
    apply TC.val [0]; exact rfl; kernel_rfl
    ·rintro _  rfl _ rfl; refine R.gY (zg2) ?_; refine R.mv ?_; refine R.nl ?_; exact Run.loc rfl rfl rfl
    apply TC.val [1, 0]; exact rfl; kernel_rfl
    ·rintro _  rfl _ rfl _ rfl; refine R.gY (zg2) ?_
     first | refine R.nc ?_ | refine R.ncf ?_
     refine R.nl ?_; exact Run.loc rfl rfl rfl
    apply TC.val [2, 0]; exact rfl; kernel_rfl
    ·rintro _  rfl _ rfl _ rfl; refine R.gY (zg2) ?_; refine R.fa Tryz.runUnderlying78 Tryz.sizeOf26 ?_; refine R.nl ?_; exact Run.loc rfl rfl rfl
    apply TC.val [3, 0]; exact rfl; kernel_rfl
    ·rintro _  rfl _ rfl _ rfl; refine R.gY (zg2) ?_; refine R.fa Tryz.runUnderlying26 Tryz.sizeOf23 ?_; refine R.nl ?_; exact Run.loc rfl rfl rfl
    apply TC.val [4, 0]; exact rfl; kernel_rfl
    ·rintro _  rfl _ rfl _ rfl; refine R.gY (zg2) ?_; refine R.fa Tryz.runUnderlying23 Tryz.sizeOf4 ?_; refine R.nl ?_; exact Run.loc rfl rfl rfl
    apply TC.val [5, 0]; exact rfl; kernel_rfl
    ·rintro _  rfl _ rfl _ rfl; refine R.gY (zg2) ?_; refine R.ld Tryz.isAgg4 ?_; refine R.nl ?_; exact Run.loc rfl rfl rfl
    apply TC.val [6, 0]; exact rfl; kernel_rfl
    ·rintro _  rfl _ rfl _ rfl; refine R.gY (zg2) ?_; refine R.nt ?_; refine R.nl ?_; exact Run.loc rfl rfl rfl
    apply TC.val [7, 0]; exact rfl; kernel_rfl
    ·rintro _  rfl _ rfl _ rfl; refine R.pT (zg2) ?_; refine R.nl ?_; exact Run.loc rfl rfl rfl
    apply TC.val [0]; exact rfl; kernel_rfl
    ·rintro _  rfl _ rfl; refine R.mv ?_; refine R.nl ?_; exact Run.loc rfl rfl rfl
    apply TC.val [0]; exact rfl; kernel_rfl
    ·rintro _  rfl _ rfl; refine R.gY (zg3) ?_; refine R.mv ?_; refine R.nl ?_; exact Run.loc rfl rfl rfl
    apply TC.val [1, 0]; exact rfl; kernel_rfl
    ·rintro _  rfl _ rfl _ rfl; refine R.gY (zg3) ?_
     first | refine R.nc ?_ | refine R.ncf ?_
     refine R.nl ?_; exact Run.loc rfl rfl rfl
    apply TC.val [2, 0]; exact rfl; kernel_rfl
    ·rintro _  rfl _ rfl _ rfl; refine R.gY (zg3) ?_; refine R.fa Tryz.runUnderlying78 Tryz.sizeOf26 ?_; refine R.nl ?_; exact Run.loc rfl rfl rfl
    apply TC.val [3, 0]; exact rfl; kernel_rfl
    ·rintro _  rfl _ rfl _ rfl; refine R.gY (zg3) ?_; refine R.fa Tryz.runUnderlying26 Tryz.sizeOf23 ?_; refine R.nl ?_; exact Run.loc rfl rfl rfl
    apply TC.val [4, 0]; exact rfl; kernel_rfl
    ·rintro _  rfl _ rfl _ rfl; refine R.gY (zg3) ?_; refine R.lA 6 Tryz.isAgg23 Tryz.sizeOf23 ?_; refine R.nl ?_; exact Run.loc rfl rfl rfl
    apply TC.val [5, 0]; exact rfl; kernel_rfl
    ·rintro _  rfl _ rfl _ rfl; refine R.gY (zg3) ?_; refine R.cg Tryz.call102 (lvl_spec t.r.own) ?_; refine R.nl ?_; exact Run.loc rfl rfl rfl
    apply TC.val [6]; exact rfl; kernel_rfl
    ·rintro _  rfl _ rfl; refine R.gY (zg3) ?_; refine R.fa Tryz.runUnderlying30 Tryz.sizeOf28 ?_; refine R.nl ?_; exact Run.loc rfl rfl rfl
    apply TC.val [7, 0]; exact rfl; kernel_rfl
    ·rintro _  rfl _ rfl _ rfl; refine R.gY (zg3) ?_; refine R.lA 3 Tryz.isAgg28 Tryz.sizeOf28 ?_; refine R.nl ?_; exact Run.loc rfl rfl rfl
    refine TC.fin (by rfl) ?_; rintro _  rfl _ rfl _ rfl _ rfl _ rfl _ rfl _ rfl _ rfl _ rfl _ rfl _ rfl _ rfl _ rfl _ rfl _ rfl _ rfl _ rfl _ rfl _ rfl _ rfl _ rfl _ rfl; refine R.gY (zg3) ?_; refine R.ea Tryz.eqGuardType28 (eqAt28 _ _ _ _ _ _) ?_; refine R.pT (zg3) ?_; refine R.nl ?_; refine R.hs (e' := [(0, _), (5, _), (6, _), (35, _)]) ?_; refine R.cd (fun zc26 => ?_) (fun zc26 => ?_)
    ·
     have hc : (!t.home && !t.r.own.null && decide (lvlH t.r.own = o.l)) = true := by
       have h1 : (t.forget o.l).home = t.home := rfl
       simp_all [Lv.ext']
     have hs : t.clr o.l = (({ t.forget o.l with r := { (t.forget o.l).r with own := nullH t.r.me } } : Tn).clear 255 o.l).miss := by rw [Tn.clr, if_pos hc]
     refine R.sq ?_; refine R.rg ?_; refine R.mv ?_; refine R.mv ?_
     first | refine R.nc ?_ | refine R.ncf ?_
     refine R.fa Tryz.runUnderlying78 Tryz.sizeOf26 ?_; refine R.fa Tryz.runUnderlying26 Tryz.sizeOf3 ?_; refine R.ld Tryz.isAgg3 ?_; refine R.cg Tryz.call25 (hNull_spec t.r.me) ?_
     first | refine R.nc ?_ | refine R.ncf ?_
     refine R.fa Tryz.runUnderlying78 Tryz.sizeOf26 ?_; refine R.fa Tryz.runUnderlying26 Tryz.sizeOf23 ?_; refine R.st Tryz.sizeOf23 ?_; refine R.nl ?_; refine R.hs (e' := [(0, _), (5, _)]) ?_; refine R.sq ?_; refine R.rg ?_; refine R.mv ?_; refine R.fa Tryz.runUnderlying30 Tryz.sizeOf28 ?_; refine R.lA 3 Tryz.isAgg28 Tryz.sizeOf28 ?_; refine R.ca Tryz.call103 ((clear_spec ({ t.forget o.l with r := { (t.forget o.l).r with own := nullH t.r.me } } : Tn) 255 o.l (by show t.out.length ≤ 10000; omega)).at hV1 hO [(b5, .cells (Ob.cells o).toArray 30 (0, 0))] Z) ?_; rintro _ D2 _ ⟨rfl, hl2, sv2, so2, q2, hV2, hO2, rfl⟩; refine R.nl ?_; refine R.hs (e' := [(0, _)]) ?_; refine R.sq ?_; refine R.rg ?_; refine R.mv ?_
     refine R.ca Tryz.call54 ((miss_spec (({ t.forget o.l with r := { (t.forget o.l).r with own := nullH t.r.me } } : Tn).clear 255 o.l) (by show (t.out ++ [_]).length ≤ 10000; simp; omega)).at hV2 hO2 [(b5, .cells (Ob.cells o).toArray 30 (0, 0))] Z) ?_; rintro _ D3 _ ⟨rfl, hl3, sv3, so3, q3, hV3, hO3, rfl⟩; refine R.nl ?_; refine R.hs (e' := []) ?_
     rw [hs]
     first
     | exact R.rk .nil 1 ⟨_ :: q3, ⟨rfl, (hl1.trans hl2).trans hl3, sv3, so3, q3, hV3, hO3, rfl⟩, rfl⟩
     | (rw [hz] at hV3 hO3 ⊢
        exact R.fn (u := .tuple #[]) .nil 1 ⟨_ :: q3, ⟨rfl, hli.trans hl3, sv3, so3, q3, hV3, hO3, rfl⟩, rfl⟩)
    ·
     have hc : ¬ (!t.home && !t.r.own.null && decide (lvlH t.r.own = o.l)) = true := by
       have h1 : (t.forget o.l).home = t.home := rfl
       simp_all [Lv.ext']
     have hs : t.clr o.l = ((t.forget o.l).clears (goneV t.r.vs o.l t.r.dest) o.l).lose := by rw [Tn.clr, if_neg hc]
     refine Run.skip ?_; refine R.sq ?_; refine R.sq ?_; refine R.rg ?_; refine R.mv ?_; refine R.ln Tryz.runUnderlying56 ?_; refine R.mv ?_; refine R.nl ?_; refine R.hs (e' := [(0, _), (5, _), (52, _), (53, _), (54, _)]) ?_; refine Run.block ?_
     refine Run.loop (ι := Nat × Dict × Value × Value × MList) [(0, _), (5, _), (52, _), (53, _)] (fun p => [(54, .int .i64 (p.1 : Int))]) (fun p => p.2.1) (fun p => (b5, .cells (Ob.cells o).toArray 30 (0, 0)) :: tb b p.2.2.1 p.2.2.2.1 ((t.forget o.l).clears ((goneV t.r.vs o.l t.r.dest).take p.1) o.l) :: (p.2.2.2.2 ++ Z)) (fun p => p.1 ≤ (goneV t.r.vs o.l t.r.dest).length ∧ Le D p.2.1 ∧ Vws p.2.1 p.2.2.1 (t.forget o.l).r.vs ∧ UO p.2.2.2.1 ((t.forget o.l).clears ((goneV t.r.vs o.l t.r.dest).take p.1) o.l).out p.2.2.2.2 ∧ Ints p.2.1 (.slice A7 (goneV t.r.vs o.l t.r.dest).length c7) (goneV t.r.vs o.l t.r.dest)) (fun p => (goneV t.r.vs o.l t.r.dest).length - p.1) ((0, D1, sv1, so, q)) (by repeat (first | exact trivial | refine ⟨rfl, ?_⟩)) ?h0 (by repeat (first | exact trivial | refine ⟨rfl, ?_⟩)) (fun w hs => hs) ?_
     case h0 => exact ⟨Nat.zero_le _, hl1, hV1, hO, hI⟩
     rintro ⟨i, Di, svi, soi, qi⟩ ⟨hi, hli, hVi, hOi, hIi⟩
     simp only at hi hli hVi hOi hIi
     have hcl := clears_len o.l ((goneV t.r.vs o.l t.r.dest).take i) (t.forget o.l)
     have hcl0 : ((t.forget o.l).clears ((goneV t.r.vs o.l t.r.dest).take i) o.l).out.length ≤ 2000 := by rw [hcl.1, List.length_take]; show t.out.length + _ ≤ _; omega
     refine R.sq ?_; refine R.rg ?_; refine R.cm ?_; refine R.nl ?_; refine R.hs (e' := [(0, _), (5, _), (52, _), (53, _), (54, _), (55, _)]) ?_; refine R.sq ?_; refine R.cd (fun zc27 => ?_) (fun zc27 => ?_)
     ·
      have hlt : i < (goneV t.r.vs o.l t.r.dest).length := by simp at zc27; omega
      obtain ⟨x, hgx⟩ := get_of_lt hlt
      obtain ⟨b1, o1, hI1, hc1⟩ := hIi.at (fun _ => rfl) hgx
      refine Run.skip ?_; refine R.sq ?_; refine Run.block ?_; refine R.sq ?_; refine R.rg ?_; refine R.ix (hI1) Tryz.runUnderlying56 Tryz.sizeOf3 ?_; refine R.ldD Tryz.isAgg3 ?_; refine R.as ?_; refine R.nl ?_; refine R.hs (e' := [(0, _), (5, _), (8, _), (52, _), (53, _), (54, _)]) ?_; refine R.rg ?_; refine R.mv ?_; refine R.mv ?_; refine R.fa Tryz.runUnderlying30 Tryz.sizeOf28 ?_; refine R.lA 3 Tryz.isAgg28 Tryz.sizeOf28 ?_; refine R.ca Tryz.call103 ((clear_spec ((t.forget o.l).clears ((goneV t.r.vs o.l t.r.dest).take i) o.l) x o.l (by omega)).at (by rw [hcl.2]; exact hVi) hOi [(b5, .cells (Ob.cells o).toArray 30 (0, 0))] Z) ?_; rintro _ D2 _ ⟨rfl, hl2, sv2, so2, q2, hV2, hO2, rfl⟩; refine R.nl ?_; refine R.hs (e' := [(0, _), (5, _), (52, _), (53, _), (54, _)]) ?_; refine Run.endBlock ?_; refine R.rg ?_; refine R.ad ?_; refine R.mv ?_; refine R.nl ?_
      refine R.hs (e' := [(0, _), (5, _), (52, _), (53, _), (54, _)]) ?_; exact Run.again (i + 1, D2, sv2, so2, q2) ⟨by simp <;> omega, hli.trans hl2, by have h9 : Vws D2 sv2 ((t.forget o.l).clears ((goneV t.r.vs o.l t.r.dest).take i) o.l).r.vs := hV2; rw [hcl.2] at h9; exact h9, by rw [clears_succ hgx]; exact hO2, hIi.mono hl2⟩ (by simp <;> omega) (by refine ⟨rfl, ?_⟩; repeat (first | exact trivial | refine ⟨rfl, ?_⟩)) (fun w hs => by rw [clears_succ hgx]; exact hs)
     ·
      have hz : (goneV t.r.vs o.l t.r.dest).take i = goneV t.r.vs o.l t.r.dest := by simp at zc27; exact List.take_of_length_le (by omega)
      refine Run.exit rfl ?_; refine R.rg ?_; refine R.mv ?_; refine R.ca Tryz.call63 ((lose_spec ((t.forget o.l).clears ((goneV t.r.vs o.l t.r.dest).take i) o.l) (by omega) (by rw [hcl.2]; exact hfl)).at (by rw [hcl.2]; exact hVi) hOi [(b5, .cells (Ob.cells o).toArray 30 (0, 0))] Z) ?_; rintro _ D3 _ ⟨rfl, hl3, sv3, so3, q3, hV3, hO3, rfl⟩; refine R.nl ?_; refine R.hs (e' := []) ?_
      rw [hs]
      first
      | exact R.rk .nil 1 ⟨_ :: q3, ⟨rfl, (hl1.trans hl2).trans hl3, sv3, so3, q3, hV3, hO3, rfl⟩, rfl⟩
      | (rw [hz] at hV3 hO3 ⊢
         exact R.fn (u := .tuple #[]) .nil 1 ⟨_ :: q3, ⟨rfl, hli.trans hl3, sv3, so3, q3, hV3, hO3, rfl⟩, rfl⟩)
   ·refine Run.drawC Grow.eq 21 [(0, _), (5, _), (6, _)] mix (by kernel_rfl) (by repeat (first | exact trivial | refine ⟨rfl, ?_⟩)) ?_; apply TC.val []; exact rfl; kernel_rfl
    ·rintro _  rfl ; refine R.mv ?_; refine R.nl ?_; exact Run.loc rfl rfl rfl
    apply TC.val [0]; exact rfl; kernel_rfl
    ·rintro _  rfl _ rfl; refine R.cg Tryz.call95 (home_spec (t := t.forget o.l) (.tail _ (.head _))) ?_; refine R.nl ?_; exact Run.loc rfl rfl rfl
    apply TC.val [0]; exact rfl; kernel_rfl
    ·rintro _  rfl _ rfl; refine R.nt ?_; refine R.nl ?_; exact Run.loc rfl rfl rfl
    apply TC.val [0]; exact rfl; kernel_rfl
    ·rintro _  rfl _ rfl; refine R.mv ?_; refine R.nl ?_; exact Run.loc rfl rfl rfl
    apply TC.val [0]; exact rfl; kernel_rfl
    ·rintro _  rfl _ rfl; refine R.gY (zg2) ?_; refine R.mv ?_; refine R.nl ?_; exact Run.loc rfl rfl rfl
    apply TC.val [1, 0]; exact rfl; kernel_rfl
    ·rintro _  rfl _ rfl _ rfl; refine R.gY (zg2) ?_
     first | refine R.nc ?_ | refine R.ncf ?_
     refine R.nl ?_; exact Run.loc rfl rfl rfl
    apply TC.val [2, 0]; exact rfl; kernel_rfl
    ·rintro _  rfl _ rfl _ rfl; refine R.gY (zg2) ?_; refine R.fa Tryz.runUnderlying78 Tryz.sizeOf26 ?_; refine R.nl ?_; exact Run.loc rfl rfl rfl
    apply TC.val [3, 0]; exact rfl; kernel_rfl
    ·rintro _  rfl _ rfl _ rfl; refine R.gY (zg2) ?_; refine R.fa Tryz.runUnderlying26 Tryz.sizeOf23 ?_; refine R.nl ?_; exact Run.loc rfl rfl rfl
    apply TC.val [4, 0]; exact rfl; kernel_rfl
    ·rintro _  rfl _ rfl _ rfl; refine R.gY (zg2) ?_; refine R.fa Tryz.runUnderlying23 Tryz.sizeOf4 ?_; refine R.nl ?_; exact Run.loc rfl rfl rfl
    apply TC.val [5, 0]; exact rfl; kernel_rfl
    ·rintro _  rfl _ rfl _ rfl; refine R.gY (zg2) ?_; refine R.ld Tryz.isAgg4 ?_; refine R.nl ?_; exact Run.loc rfl rfl rfl
    apply TC.val [6, 0]; exact rfl; kernel_rfl
    ·rintro _  rfl _ rfl _ rfl; refine R.gY (zg2) ?_; refine R.nt ?_; refine R.nl ?_; exact Run.loc rfl rfl rfl
    apply TC.val [7, 0]; exact rfl; kernel_rfl
    ·rintro _  rfl _ rfl _ rfl; refine R.pT (zg2) ?_; refine R.nl ?_; exact Run.loc rfl rfl rfl
    apply TC.val [0]; exact rfl; kernel_rfl
    ·rintro _  rfl _ rfl; refine R.mv ?_; refine R.nl ?_; exact Run.loc rfl rfl rfl
    apply TC.val [0]; exact rfl; kernel_rfl
    ·rintro _  rfl _ rfl; refine R.gF (zg3) ?_; refine R.nl ?_; exact Run.loc rfl rfl rfl
    apply TC.val [1, 0]; exact rfl; kernel_rfl
    ·rintro _  rfl _ rfl _ rfl; refine R.gF (zg3) ?_; refine R.nl ?_; exact Run.loc rfl rfl rfl
    apply TC.val [2, 0]; exact rfl; kernel_rfl
    ·rintro _  rfl _ rfl _ rfl; refine R.gF (zg3) ?_; refine R.nl ?_; exact Run.loc rfl rfl rfl
    apply TC.val [3, 0]; exact rfl; kernel_rfl
    ·rintro _  rfl _ rfl _ rfl; refine R.gF (zg3) ?_; refine R.nl ?_; exact Run.loc rfl rfl rfl
    apply TC.val [4, 0]; exact rfl; kernel_rfl
    ·rintro _  rfl _ rfl _ rfl; refine R.gF (zg3) ?_; refine R.nl ?_; exact Run.loc rfl rfl rfl
    apply TC.val [5, 0]; exact rfl; kernel_rfl
    ·rintro _  rfl _ rfl _ rfl; refine R.gF (zg3) ?_; refine R.nl ?_; exact Run.loc rfl rfl rfl
    apply TC.val [6]; exact rfl; kernel_rfl
    ·rintro _  rfl _ rfl; refine R.gF (zg3) ?_; refine R.nl ?_; exact Run.loc rfl rfl rfl
    apply TC.val [7, 0]; exact rfl; kernel_rfl
    ·rintro _  rfl _ rfl _ rfl; refine R.gF (zg3) ?_; refine R.nl ?_; exact Run.loc rfl rfl rfl
    refine TC.fin (by rfl) ?_; rintro _  rfl _ rfl _ rfl _ rfl _ rfl _ rfl _ rfl _ rfl _ rfl _ rfl _ rfl _ rfl _ rfl _ rfl _ rfl _ rfl _ rfl _ rfl _ rfl _ rfl _ rfl _ rfl; refine R.gF (zg3) ?_; refine R.pF (zg3) ?_; refine R.nl ?_; refine R.hs (e' := [(0, _), (5, _), (6, _), (35, _)]) ?_; refine R.cF (rfl) ?_
    have hc : ¬ (!t.home && !t.r.own.null && decide (lvlH t.r.own = o.l)) = true := by
      have h1 : (t.forget o.l).home = t.home := rfl
      simp_all [Lv.ext']
    have hs : t.clr o.l = ((t.forget o.l).clears (goneV t.r.vs o.l t.r.dest) o.l).lose := by rw [Tn.clr, if_neg hc]
    refine Run.skip ?_; refine R.sq ?_; refine R.sq ?_; refine R.rg ?_; refine R.mv ?_; refine R.ln Tryz.runUnderlying56 ?_; refine R.mv ?_; refine R.nl ?_; refine R.hs (e' := [(0, _), (5, _), (52, _), (53, _), (54, _)]) ?_; refine Run.block ?_
    refine Run.loop (ι := Nat × Dict × Value × Value × MList) [(0, _), (5, _), (52, _), (53, _)] (fun p => [(54, .int .i64 (p.1 : Int))]) (fun p => p.2.1) (fun p => (b5, .cells (Ob.cells o).toArray 30 (0, 0)) :: tb b p.2.2.1 p.2.2.2.1 ((t.forget o.l).clears ((goneV t.r.vs o.l t.r.dest).take p.1) o.l) :: (p.2.2.2.2 ++ Z)) (fun p => p.1 ≤ (goneV t.r.vs o.l t.r.dest).length ∧ Le D p.2.1 ∧ Vws p.2.1 p.2.2.1 (t.forget o.l).r.vs ∧ UO p.2.2.2.1 ((t.forget o.l).clears ((goneV t.r.vs o.l t.r.dest).take p.1) o.l).out p.2.2.2.2 ∧ Ints p.2.1 (.slice A7 (goneV t.r.vs o.l t.r.dest).length c7) (goneV t.r.vs o.l t.r.dest)) (fun p => (goneV t.r.vs o.l t.r.dest).length - p.1) ((0, D1, sv1, so, q)) (by repeat (first | exact trivial | refine ⟨rfl, ?_⟩)) ?h0 (by repeat (first | exact trivial | refine ⟨rfl, ?_⟩)) (fun w hs => hs) ?_
    case h0 => exact ⟨Nat.zero_le _, hl1, hV1, hO, hI⟩
    rintro ⟨i, Di, svi, soi, qi⟩ ⟨hi, hli, hVi, hOi, hIi⟩
    simp only at hi hli hVi hOi hIi
    have hcl := clears_len o.l ((goneV t.r.vs o.l t.r.dest).take i) (t.forget o.l)
    have hcl0 : ((t.forget o.l).clears ((goneV t.r.vs o.l t.r.dest).take i) o.l).out.length ≤ 2000 := by rw [hcl.1, List.length_take]; show t.out.length + _ ≤ _; omega
    refine R.sq ?_; refine R.rg ?_; refine R.cm ?_; refine R.nl ?_; refine R.hs (e' := [(0, _), (5, _), (52, _), (53, _), (54, _), (55, _)]) ?_; refine R.sq ?_; refine R.cd (fun zc50 => ?_) (fun zc50 => ?_)
    ·
     have hlt : i < (goneV t.r.vs o.l t.r.dest).length := by simp at zc50; omega
     obtain ⟨x, hgx⟩ := get_of_lt hlt
     obtain ⟨b1, o1, hI1, hc1⟩ := hIi.at (fun _ => rfl) hgx
     refine Run.skip ?_; refine R.sq ?_; refine Run.block ?_; refine R.sq ?_; refine R.rg ?_; refine R.ix (hI1) Tryz.runUnderlying56 Tryz.sizeOf3 ?_; refine R.ldD Tryz.isAgg3 ?_; refine R.as ?_; refine R.nl ?_; refine R.hs (e' := [(0, _), (5, _), (8, _), (52, _), (53, _), (54, _)]) ?_; refine R.rg ?_; refine R.mv ?_; refine R.mv ?_; refine R.fa Tryz.runUnderlying30 Tryz.sizeOf28 ?_; refine R.lA 3 Tryz.isAgg28 Tryz.sizeOf28 ?_; refine R.ca Tryz.call103 ((clear_spec ((t.forget o.l).clears ((goneV t.r.vs o.l t.r.dest).take i) o.l) x o.l (by omega)).at (by rw [hcl.2]; exact hVi) hOi [(b5, .cells (Ob.cells o).toArray 30 (0, 0))] Z) ?_; rintro _ D2 _ ⟨rfl, hl2, sv2, so2, q2, hV2, hO2, rfl⟩; refine R.nl ?_; refine R.hs (e' := [(0, _), (5, _), (52, _), (53, _), (54, _)]) ?_; refine Run.endBlock ?_; refine R.rg ?_; refine R.ad ?_; refine R.mv ?_; refine R.nl ?_
     refine R.hs (e' := [(0, _), (5, _), (52, _), (53, _), (54, _)]) ?_; exact Run.again (i + 1, D2, sv2, so2, q2) ⟨by simp <;> omega, hli.trans hl2, by have h9 : Vws D2 sv2 ((t.forget o.l).clears ((goneV t.r.vs o.l t.r.dest).take i) o.l).r.vs := hV2; rw [hcl.2] at h9; exact h9, by rw [clears_succ hgx]; exact hO2, hIi.mono hl2⟩ (by simp <;> omega) (by refine ⟨rfl, ?_⟩; repeat (first | exact trivial | refine ⟨rfl, ?_⟩)) (fun w hs => by rw [clears_succ hgx]; exact hs)
    ·
     have hz : (goneV t.r.vs o.l t.r.dest).take i = goneV t.r.vs o.l t.r.dest := by simp at zc50; exact List.take_of_length_le (by omega)
     refine Run.exit rfl ?_; refine R.rg ?_; refine R.mv ?_; refine R.ca Tryz.call63 ((lose_spec ((t.forget o.l).clears ((goneV t.r.vs o.l t.r.dest).take i) o.l) (by omega) (by rw [hcl.2]; exact hfl)).at (by rw [hcl.2]; exact hVi) hOi [(b5, .cells (Ob.cells o).toArray 30 (0, 0))] Z) ?_; rintro _ D3 _ ⟨rfl, hl3, sv3, so3, q3, hV3, hO3, rfl⟩; refine R.nl ?_; refine R.hs (e' := []) ?_
     rw [hs]
     first
     | exact R.rk .nil 1 ⟨_ :: q3, ⟨rfl, (hl1.trans hl2).trans hl3, sv3, so3, q3, hV3, hO3, rfl⟩, rfl⟩
     | (rw [hz] at hV3 hO3 ⊢
        exact R.fn (u := .tuple #[]) .nil 1 ⟨_ :: q3, ⟨rfl, hli.trans hl3, sv3, so3, q3, hV3, hO3, rfl⟩, rfl⟩)
  ·refine Run.drawC Grow.eq 21 [(0, _), (5, _), (6, _)] mix (by kernel_rfl) (by repeat (first | exact trivial | refine ⟨rfl, ?_⟩)) ?_; apply TC.val []; exact rfl; kernel_rfl
   ·rintro _  rfl ; refine R.mv ?_; refine R.nl ?_; exact Run.loc rfl rfl rfl
   apply TC.val [0]; exact rfl; kernel_rfl
   ·rintro _  rfl _ rfl; refine R.cg Tryz.call95 (home_spec (t := t.forget o.l) (.tail _ (.head _))) ?_; refine R.nl ?_; exact Run.loc rfl rfl rfl
   apply TC.val [0]; exact rfl; kernel_rfl
   ·rintro _  rfl _ rfl; refine R.nt ?_; refine R.nl ?_; exact Run.loc rfl rfl rfl
   apply TC.val [0]; exact rfl; kernel_rfl
   ·rintro _  rfl _ rfl; refine R.mv ?_; refine R.nl ?_; exact Run.loc rfl rfl rfl
   apply TC.val [0]; exact rfl; kernel_rfl
   ·rintro _  rfl _ rfl; refine R.gF (zg2) ?_; refine R.nl ?_; exact Run.loc rfl rfl rfl
   apply TC.val [1, 0]; exact rfl; kernel_rfl
   ·rintro _  rfl _ rfl _ rfl; refine R.gF (zg2) ?_; refine R.nl ?_; exact Run.loc rfl rfl rfl
   apply TC.val [2, 0]; exact rfl; kernel_rfl
   ·rintro _  rfl _ rfl _ rfl; refine R.gF (zg2) ?_; refine R.nl ?_; exact Run.loc rfl rfl rfl
   apply TC.val [3, 0]; exact rfl; kernel_rfl
   ·rintro _  rfl _ rfl _ rfl; refine R.gF (zg2) ?_; refine R.nl ?_; exact Run.loc rfl rfl rfl
   apply TC.val [4, 0]; exact rfl; kernel_rfl
   ·rintro _  rfl _ rfl _ rfl; refine R.gF (zg2) ?_; refine R.nl ?_; exact Run.loc rfl rfl rfl
   apply TC.val [5, 0]; exact rfl; kernel_rfl
   ·rintro _  rfl _ rfl _ rfl; refine R.gF (zg2) ?_; refine R.nl ?_; exact Run.loc rfl rfl rfl
   apply TC.val [6, 0]; exact rfl; kernel_rfl
   ·rintro _  rfl _ rfl _ rfl; refine R.gF (zg2) ?_; refine R.nl ?_; exact Run.loc rfl rfl rfl
   apply TC.val [7, 0]; exact rfl; kernel_rfl
   ·rintro _  rfl _ rfl _ rfl; refine R.pF (zg2) ?_; refine R.nl ?_; exact Run.loc rfl rfl rfl
   apply TC.val [0]; exact rfl; kernel_rfl
   ·rintro _  rfl _ rfl; refine R.mv ?_; refine R.nl ?_; exact Run.loc rfl rfl rfl
   apply TC.val [0]; exact rfl; kernel_rfl
   ·rintro _  rfl _ rfl; refine R.gF (rfl) ?_; refine R.nl ?_; exact Run.loc rfl rfl rfl
   apply TC.val [1, 0]; exact rfl; kernel_rfl
   ·rintro _  rfl _ rfl _ rfl; refine R.gF (rfl) ?_; refine R.nl ?_; exact Run.loc rfl rfl rfl
   apply TC.val [2, 0]; exact rfl; kernel_rfl
   ·rintro _  rfl _ rfl _ rfl; refine R.gF (rfl) ?_; refine R.nl ?_; exact Run.loc rfl rfl rfl
   apply TC.val [3, 0]; exact rfl; kernel_rfl
   ·rintro _  rfl _ rfl _ rfl; refine R.gF (rfl) ?_; refine R.nl ?_; exact Run.loc rfl rfl rfl
   apply TC.val [4, 0]; exact rfl; kernel_rfl
   ·rintro _  rfl _ rfl _ rfl; refine R.gF (rfl) ?_; refine R.nl ?_; exact Run.loc rfl rfl rfl
   apply TC.val [5, 0]; exact rfl; kernel_rfl
   ·rintro _  rfl _ rfl _ rfl; refine R.gF (rfl) ?_; refine R.nl ?_; exact Run.loc rfl rfl rfl
   apply TC.val [6]; exact rfl; kernel_rfl
   ·rintro _  rfl _ rfl; refine R.gF (rfl) ?_; refine R.nl ?_; exact Run.loc rfl rfl rfl
   apply TC.val [7, 0]; exact rfl; kernel_rfl
   ·rintro _  rfl _ rfl _ rfl; refine R.gF (rfl) ?_; refine R.nl ?_; exact Run.loc rfl rfl rfl
   refine TC.fin (by rfl) ?_; rintro _  rfl _ rfl _ rfl _ rfl _ rfl _ rfl _ rfl _ rfl _ rfl _ rfl _ rfl _ rfl _ rfl _ rfl _ rfl _ rfl _ rfl _ rfl _ rfl _ rfl _ rfl _ rfl; refine R.gF (rfl) ?_; refine R.pF (rfl) ?_; refine R.nl ?_; refine R.hs (e' := [(0, _), (5, _), (6, _), (35, _)]) ?_; refine R.cF (rfl) ?_
   have hc : ¬ (!t.home && !t.r.own.null && decide (lvlH t.r.own = o.l)) = true := by
     have h1 : (t.forget o.l).home = t.home := rfl
     simp_all [Lv.ext']
   have hs : t.clr o.l = ((t.forget o.l).clears (goneV t.r.vs o.l t.r.dest) o.l).lose := by rw [Tn.clr, if_neg hc]
   refine Run.skip ?_; refine R.sq ?_; refine R.sq ?_; refine R.rg ?_; refine R.mv ?_; refine R.ln Tryz.runUnderlying56 ?_; refine R.mv ?_; refine R.nl ?_; refine R.hs (e' := [(0, _), (5, _), (52, _), (53, _), (54, _)]) ?_; refine Run.block ?_
   refine Run.loop (ι := Nat × Dict × Value × Value × MList) [(0, _), (5, _), (52, _), (53, _)] (fun p => [(54, .int .i64 (p.1 : Int))]) (fun p => p.2.1) (fun p => (b5, .cells (Ob.cells o).toArray 30 (0, 0)) :: tb b p.2.2.1 p.2.2.2.1 ((t.forget o.l).clears ((goneV t.r.vs o.l t.r.dest).take p.1) o.l) :: (p.2.2.2.2 ++ Z)) (fun p => p.1 ≤ (goneV t.r.vs o.l t.r.dest).length ∧ Le D p.2.1 ∧ Vws p.2.1 p.2.2.1 (t.forget o.l).r.vs ∧ UO p.2.2.2.1 ((t.forget o.l).clears ((goneV t.r.vs o.l t.r.dest).take p.1) o.l).out p.2.2.2.2 ∧ Ints p.2.1 (.slice A7 (goneV t.r.vs o.l t.r.dest).length c7) (goneV t.r.vs o.l t.r.dest)) (fun p => (goneV t.r.vs o.l t.r.dest).length - p.1) ((0, D1, sv1, so, q)) (by repeat (first | exact trivial | refine ⟨rfl, ?_⟩)) ?h0 (by repeat (first | exact trivial | refine ⟨rfl, ?_⟩)) (fun w hs => hs) ?_
   case h0 => exact ⟨Nat.zero_le _, hl1, hV1, hO, hI⟩
   rintro ⟨i, Di, svi, soi, qi⟩ ⟨hi, hli, hVi, hOi, hIi⟩
   simp only at hi hli hVi hOi hIi
   have hcl := clears_len o.l ((goneV t.r.vs o.l t.r.dest).take i) (t.forget o.l)
   have hcl0 : ((t.forget o.l).clears ((goneV t.r.vs o.l t.r.dest).take i) o.l).out.length ≤ 2000 := by rw [hcl.1, List.length_take]; show t.out.length + _ ≤ _; omega
   refine R.sq ?_; refine R.rg ?_; refine R.cm ?_; refine R.nl ?_; refine R.hs (e' := [(0, _), (5, _), (52, _), (53, _), (54, _), (55, _)]) ?_; refine R.sq ?_; refine R.cd (fun zc73 => ?_) (fun zc73 => ?_)
   ·
    have hlt : i < (goneV t.r.vs o.l t.r.dest).length := by simp at zc73; omega
    obtain ⟨x, hgx⟩ := get_of_lt hlt
    obtain ⟨b1, o1, hI1, hc1⟩ := hIi.at (fun _ => rfl) hgx
    refine Run.skip ?_; refine R.sq ?_; refine Run.block ?_; refine R.sq ?_; refine R.rg ?_; refine R.ix (hI1) Tryz.runUnderlying56 Tryz.sizeOf3 ?_; refine R.ldD Tryz.isAgg3 ?_; refine R.as ?_; refine R.nl ?_; refine R.hs (e' := [(0, _), (5, _), (8, _), (52, _), (53, _), (54, _)]) ?_; refine R.rg ?_; refine R.mv ?_; refine R.mv ?_; refine R.fa Tryz.runUnderlying30 Tryz.sizeOf28 ?_; refine R.lA 3 Tryz.isAgg28 Tryz.sizeOf28 ?_; refine R.ca Tryz.call103 ((clear_spec ((t.forget o.l).clears ((goneV t.r.vs o.l t.r.dest).take i) o.l) x o.l (by omega)).at (by rw [hcl.2]; exact hVi) hOi [(b5, .cells (Ob.cells o).toArray 30 (0, 0))] Z) ?_; rintro _ D2 _ ⟨rfl, hl2, sv2, so2, q2, hV2, hO2, rfl⟩; refine R.nl ?_; refine R.hs (e' := [(0, _), (5, _), (52, _), (53, _), (54, _)]) ?_; refine Run.endBlock ?_; refine R.rg ?_; refine R.ad ?_; refine R.mv ?_; refine R.nl ?_
    refine R.hs (e' := [(0, _), (5, _), (52, _), (53, _), (54, _)]) ?_; exact Run.again (i + 1, D2, sv2, so2, q2) ⟨by simp <;> omega, hli.trans hl2, by have h9 : Vws D2 sv2 ((t.forget o.l).clears ((goneV t.r.vs o.l t.r.dest).take i) o.l).r.vs := hV2; rw [hcl.2] at h9; exact h9, by rw [clears_succ hgx]; exact hO2, hIi.mono hl2⟩ (by simp <;> omega) (by refine ⟨rfl, ?_⟩; repeat (first | exact trivial | refine ⟨rfl, ?_⟩)) (fun w hs => by rw [clears_succ hgx]; exact hs)
   ·
    have hz : (goneV t.r.vs o.l t.r.dest).take i = goneV t.r.vs o.l t.r.dest := by simp at zc73; exact List.take_of_length_le (by omega)
    refine Run.exit rfl ?_; refine R.rg ?_; refine R.mv ?_; refine R.ca Tryz.call63 ((lose_spec ((t.forget o.l).clears ((goneV t.r.vs o.l t.r.dest).take i) o.l) (by omega) (by rw [hcl.2]; exact hfl)).at (by rw [hcl.2]; exact hVi) hOi [(b5, .cells (Ob.cells o).toArray 30 (0, 0))] Z) ?_; rintro _ D3 _ ⟨rfl, hl3, sv3, so3, q3, hV3, hO3, rfl⟩; refine R.nl ?_; refine R.hs (e' := []) ?_
    rw [hs]
    first
    | exact R.rk .nil 1 ⟨_ :: q3, ⟨rfl, (hl1.trans hl2).trans hl3, sv3, so3, q3, hV3, hO3, rfl⟩, rfl⟩
    | (rw [hz] at hV3 hO3 ⊢
       exact R.fn (u := .tuple #[]) .nil 1 ⟨_ :: q3, ⟨rfl, hli.trans hl3, sv3, so3, q3, hV3, hO3, rfl⟩, rfl⟩)
theorem late3 {x y : Nat × Obj} {p : Value → Nat → Prop} {r : Value → Value → Nat → Prop} {f : Value → Nat → Nat × Obj} {k : Value → Value → Nat → Nat × Obj} {l zM : MList} (hz : zM = x :: y :: l ∨ (∃ v b, p v b ∧ zM = f v b :: x :: y :: l) ∨ (∃ _ : Value, False) ∨ ∃ v w b, r v w b ∧ zM = k v w b :: x :: y :: l) : y ∈ zM := by
  rcases hz with rfl | ⟨_, _, _, rfl⟩ | ⟨_, h⟩ | ⟨_, _, _, _, rfl⟩
  · exact .tail _ (.head _)
  · exact .tail _ (.tail _ (.head _))
  · exact h.elim
  · exact .tail _ (.tail _ (.head _))
def Tn.opt (t : Tn) (src : Int) (o : Ob) : Tn :=
  if t.home || (t.r.heard && !lessN t.r.last o.num) then t.upd src o.h
  else if (atO (lvlH o.h) (o.h.delta + 1) t.r.me).2 ≠ 0 then { t.set src o.h with e := (atO (lvlH o.h) (o.h.delta + 1) t.r.me).2 }
  else ({ t.set src o.h with r := { (t.set src o.h).r with own := (atO (lvlH o.h) (o.h.delta + 1) t.r.me).1, asked := false } } : Tn).refresh o.num
theorem opt_spec {b : Nat} (t : Tn) (src : Int) (o : Ob) (hn : t.out.length ≤ 1000) (hvn : t.r.vs.length ≤ 999) (hod : o.h.delta ≤ 1099511627776 ∧ -1099511627776 ≤ o.h.delta) : MS 69 [.pointer (some ⟨b, 0, none⟩), .int .i64 src, .agg (Ob.cells o).toArray] b t (t.opt src o) := by
  refine MS.of fun g D Z q sv so hV hO => ?_
  have hle : Le D D := Le.rfl'
  have hvs := set_len t src o.h
  refine Spec.enter Tryz.func69 rfl Tryz.ntmps69 rfl ?_; refine R.sq ?_; refine R.rg ?_; refine R.bxA (fun b5 hb5 => ?_); refine R.nl ?_; refine R.hs (e' := [(0, _), (1, _), (5, _)]) ?_; refine R.sq ?_; refine R.sq ?_
  rcases Bool.eq_false_or_eq_true (t.home) with zg2 | zg2
  ·refine Run.drawC Grow.eq 16 [(0, _), (1, _), (5, _)] mix (by kernel_rfl) (by repeat (first | exact trivial | refine ⟨rfl, ?_⟩)) ?_; apply TC.val []; exact rfl; kernel_rfl
   ·rintro _  rfl ; refine R.mv ?_; refine R.nl ?_; exact Run.loc rfl rfl rfl
   apply TC.val [0]; exact rfl; kernel_rfl
   ·rintro _  rfl _ rfl; refine R.cg Tryz.call95 (home_spec (t := t) (.tail _ (.head _))) ?_; refine R.nl ?_; exact Run.loc rfl rfl rfl
   apply TC.val [0]; exact rfl; kernel_rfl
   ·rintro _  rfl _ rfl; refine R.mv ?_; refine R.nl ?_; exact Run.loc rfl rfl rfl
   apply TC.val [0]; exact rfl; kernel_rfl
   ·rintro _  rfl _ rfl; refine R.gF (zg2) ?_; refine R.nl ?_; exact Run.loc rfl rfl rfl
   apply TC.val [1, 0]; exact rfl; kernel_rfl
   ·rintro _  rfl _ rfl _ rfl; refine R.gF (zg2) ?_; refine R.nl ?_; exact Run.loc rfl rfl rfl
   apply TC.val [2, 0]; exact rfl; kernel_rfl
   ·rintro _  rfl _ rfl _ rfl; refine R.gF (zg2) ?_; refine R.nl ?_; exact Run.loc rfl rfl rfl
   apply TC.val [3, 0]; exact rfl; kernel_rfl
   ·rintro _  rfl _ rfl _ rfl; refine R.gF (zg2) ?_; refine R.nl ?_; exact Run.loc rfl rfl rfl
   apply TC.val [4, 0]; exact rfl; kernel_rfl
   ·rintro _  rfl _ rfl _ rfl; refine R.gF (zg2) ?_; refine R.nl ?_; exact Run.loc rfl rfl rfl
   apply TC.val [5, 0]; exact rfl; kernel_rfl
   ·rintro _  rfl _ rfl _ rfl; refine R.gF (zg2) ?_; refine R.nl ?_; exact Run.loc rfl rfl rfl
   apply TC.val [0]; exact rfl; kernel_rfl
   ·rintro _  rfl _ rfl; refine R.gU ?_; refine R.nl ?_; exact Run.loc rfl rfl rfl
   apply TC.val [1, 0]; exact rfl; kernel_rfl
   ·rintro _  rfl _ rfl _ rfl; refine R.gU ?_; refine R.nl ?_; exact Run.loc rfl rfl rfl
   apply TC.val [2, 0]; exact rfl; kernel_rfl
   ·rintro _  rfl _ rfl _ rfl; refine R.gU ?_; refine R.nl ?_; exact Run.loc rfl rfl rfl
   apply TC.val [3, 0]; exact rfl; kernel_rfl
   ·rintro _  rfl _ rfl _ rfl; refine R.gU ?_; refine R.nl ?_; exact Run.loc rfl rfl rfl
   apply TC.val [4, 0]; exact rfl; kernel_rfl
   ·rintro _  rfl _ rfl _ rfl; refine R.gU ?_; refine R.nl ?_; exact Run.loc rfl rfl rfl
   apply TC.val [5]; exact rfl; kernel_rfl
   ·rintro _  rfl _ rfl; refine R.gU ?_; refine R.nl ?_; exact Run.loc rfl rfl rfl
   apply TC.val [6, 0]; exact rfl; kernel_rfl
   ·rintro _  rfl _ rfl _ rfl; refine R.gU ?_; refine R.nl ?_; exact Run.loc rfl rfl rfl
   refine TC.fin (by rfl) ?_; rintro _  rfl _ rfl _ rfl _ rfl _ rfl _ rfl _ rfl _ rfl _ rfl _ rfl _ rfl _ rfl _ rfl _ rfl _ rfl _ rfl _ rfl; refine R.gU ?_; refine R.gU ?_; refine R.gF (zg2) ?_; refine R.pT (zg2) ?_; refine R.nl ?_; refine R.hs (e' := [(0, _), (1, _), (5, _), (27, _)]) ?_; refine R.cT (rfl) ?_
   have hc : (t.home || (t.r.heard && !lessN t.r.last o.num)) = true := by simp_all
   have hs : t.opt src o = t.upd src o.h := by rw [Tn.opt, if_pos hc]
   refine R.sq ?_; refine R.rg ?_; refine R.mv ?_; refine R.mv ?_; refine R.lA 12 Tryz.isAgg30 Tryz.sizeOf30 ?_; refine R.ca Tryz.call67 ((upd_spec t src o (by omega) hvn).at hV hO [(b5, .cells (Ob.cells o).toArray 30 (0, 0))] Z) ?_; rintro _ D1 _ ⟨rfl, hl1, sv1, so1, q1, hV1, hO1, rfl⟩; refine R.nl ?_; refine R.hs (e' := []) ?_
   rw [hs]
   first
   | exact R.rk .nil 1 ⟨_ :: q1, ⟨rfl, hl1, sv1, so1, q1, hV1, hO1, rfl⟩, rfl⟩
   | exact R.rk .nil 2 ⟨_ :: q, ⟨rfl, hle, w, so, q, hw, hO, rfl⟩, rfl⟩
   | exact R.fn (u := .tuple #[]) .nil 2 ⟨_ :: q1, ⟨rfl, hle.trans hl1, sv1, so1, q1, hV1, hO1, rfl⟩, rfl⟩
  ·
   rcases Bool.eq_false_or_eq_true (t.r.heard) with zg20 | zg20
   ·refine Run.drawC Grow.eq 16 [(0, _), (1, _), (5, _)] mix (by kernel_rfl) (by repeat (first | exact trivial | refine ⟨rfl, ?_⟩)) ?_; apply TC.val []; exact rfl; kernel_rfl
    ·rintro _  rfl ; refine R.mv ?_; refine R.nl ?_; exact Run.loc rfl rfl rfl
    apply TC.val [0]; exact rfl; kernel_rfl
    ·rintro _  rfl _ rfl; refine R.cg Tryz.call95 (home_spec (t := t) (.tail _ (.head _))) ?_; refine R.nl ?_; exact Run.loc rfl rfl rfl
    apply TC.val [0]; exact rfl; kernel_rfl
    ·rintro _  rfl _ rfl; refine R.mv ?_; refine R.nl ?_; exact Run.loc rfl rfl rfl
    apply TC.val [0]; exact rfl; kernel_rfl
    ·rintro _  rfl _ rfl; refine R.gY (zg2) ?_; refine R.mv ?_; refine R.nl ?_; exact Run.loc rfl rfl rfl
    apply TC.val [1, 0]; exact rfl; kernel_rfl
    ·rintro _  rfl _ rfl _ rfl; refine R.gY (zg2) ?_
     first | refine R.nc ?_ | refine R.ncf ?_
     refine R.nl ?_; exact Run.loc rfl rfl rfl
    apply TC.val [2, 0]; exact rfl; kernel_rfl
    ·rintro _  rfl _ rfl _ rfl; refine R.gY (zg2) ?_; refine R.fa Tryz.runUnderlying78 Tryz.sizeOf26 ?_; refine R.nl ?_; exact Run.loc rfl rfl rfl
    apply TC.val [3, 0]; exact rfl; kernel_rfl
    ·rintro _  rfl _ rfl _ rfl; refine R.gY (zg2) ?_; refine R.fa Tryz.runUnderlying26 Tryz.sizeOf4 ?_; refine R.nl ?_; exact Run.loc rfl rfl rfl
    apply TC.val [4, 0]; exact rfl; kernel_rfl
    ·rintro _  rfl _ rfl _ rfl; refine R.gY (zg2) ?_; refine R.ld Tryz.isAgg4 ?_; refine R.nl ?_; exact Run.loc rfl rfl rfl
    apply TC.val [5, 0]; exact rfl; kernel_rfl
    ·rintro _  rfl _ rfl _ rfl; refine R.gY (zg2) ?_; refine R.mv ?_; refine R.nl ?_; exact Run.loc rfl rfl rfl
    apply TC.val [0]; exact rfl; kernel_rfl
    ·rintro _  rfl _ rfl; refine R.gY (zg20) ?_; refine R.mv ?_; refine R.nl ?_; exact Run.loc rfl rfl rfl
    apply TC.val [1, 0]; exact rfl; kernel_rfl
    ·rintro _  rfl _ rfl _ rfl; refine R.gY (zg20) ?_
     first | refine R.nc ?_ | refine R.ncf ?_
     refine R.nl ?_; exact Run.loc rfl rfl rfl
    apply TC.val [2, 0]; exact rfl; kernel_rfl
    ·rintro _  rfl _ rfl _ rfl; refine R.gY (zg20) ?_; refine R.fa Tryz.runUnderlying78 Tryz.sizeOf26 ?_; refine R.nl ?_; exact Run.loc rfl rfl rfl
    apply TC.val [3, 0]; exact rfl; kernel_rfl
    ·rintro _  rfl _ rfl _ rfl; refine R.gY (zg20) ?_; refine R.fa Tryz.runUnderlying26 Tryz.sizeOf3 ?_; refine R.nl ?_; exact Run.loc rfl rfl rfl
    apply TC.val [4, 0]; exact rfl; kernel_rfl
    ·rintro _  rfl _ rfl _ rfl; refine R.gY (zg20) ?_; refine R.ld Tryz.isAgg3 ?_; refine R.nl ?_; exact Run.loc rfl rfl rfl
    apply TC.val [5]; exact rfl; kernel_rfl
    ·rintro _  rfl _ rfl; refine R.gY (zg20) ?_; refine R.fa Tryz.runUnderlying30 Tryz.sizeOf3 ?_; refine R.nl ?_; exact Run.loc rfl rfl rfl
    apply TC.val [6, 0]; exact rfl; kernel_rfl
    ·rintro _  rfl _ rfl _ rfl; refine R.gY (zg20) ?_; refine R.ld Tryz.isAgg3 ?_; refine R.nl ?_; exact Run.loc rfl rfl rfl
    refine TC.fin (by rfl) ?_; rintro _  rfl _ rfl _ rfl _ rfl _ rfl _ rfl _ rfl _ rfl _ rfl _ rfl _ rfl _ rfl _ rfl _ rfl _ rfl _ rfl _ rfl; refine R.gY (zg20) ?_; refine R.cg Tryz.call104 (less16_spec t.r.last o.num) ?_; refine R.gY (zg20) ?_; refine R.nt ?_; refine R.gY (zg2) ?_; refine R.pT (zg20) ?_; refine R.pF (zg2) ?_; refine R.nl ?_; refine R.hs (e' := [(0, _), (1, _), (5, _), (27, _)]) ?_; refine R.cd (fun zc38 => ?_) (fun zc38 => ?_)
    ·
     have hc : (t.home || (t.r.heard && !lessN t.r.last o.num)) = true := by simp_all
     have hs : t.opt src o = t.upd src o.h := by rw [Tn.opt, if_pos hc]
     refine R.sq ?_; refine R.rg ?_; refine R.mv ?_; refine R.mv ?_; refine R.lA 12 Tryz.isAgg30 Tryz.sizeOf30 ?_; refine R.ca Tryz.call67 ((upd_spec t src o (by omega) hvn).at hV hO [(b5, .cells (Ob.cells o).toArray 30 (0, 0))] Z) ?_; rintro _ D1 _ ⟨rfl, hl1, sv1, so1, q1, hV1, hO1, rfl⟩; refine R.nl ?_; refine R.hs (e' := []) ?_
     rw [hs]
     first
     | exact R.rk .nil 1 ⟨_ :: q1, ⟨rfl, hl1, sv1, so1, q1, hV1, hO1, rfl⟩, rfl⟩
     | exact R.rk .nil 2 ⟨_ :: q, ⟨rfl, hle, w, so, q, hw, hO, rfl⟩, rfl⟩
     | exact R.fn (u := .tuple #[]) .nil 2 ⟨_ :: q1, ⟨rfl, hle.trans hl1, sv1, so1, q1, hV1, hO1, rfl⟩, rfl⟩
    ·
     have hc : ¬ (t.home || (t.r.heard && !lessN t.r.last o.num)) = true := by simp_all
     refine Run.skip ?_; refine R.sq ?_; refine Run.drawY Grow.le 18 17 21 (fun D v M' => ∃ w, Vws D w (t.set src o.h).r.vs ∧ M' = (b5, .cells (Ob.cells o).toArray 30 (0, 0)) :: tb b w so { t with r := { t.r with vs := (t.set src o.h).r.vs } } :: (q ++ Z)) (fun _ _ _ => False) (fun _ _ _ _ => False) [(0, _), (1, _), (5, _)] mix (by kernel_rfl) (by repeat (first | exact trivial | refine ⟨rfl, ?_⟩)) (fun _ _ _ _ hR ⟨w, h1, h2⟩ => ⟨w, h1.mono hR, h2⟩) (fun _ _ _ _ _ h => h) (fun _ _ _ _ _ _ h => h) ?_; apply TY.val []; exact rfl; kernel_rfl
     · exact (.inr (fun _ _ _ h => h))
     ·rintro zD39  hzD39 
      try replace hle := hle.mono hzD39
      try replace hV := hV.mono hzD39
      refine R.mv ?_; refine R.nl ?_; exact Run.loc rfl Le.rfl' rfl
     apply TY.late []; exact rfl; kernel_rfl
     ·rintro zD40 zM hzM hzD40 
      try replace hle := hle.mono hzD40
      try replace hV := hV.mono hzD40
      refine R.mv ?_; refine R.nl ?_; exact Run.loc rfl Le.rfl' rfl
     apply TY.val []; exact rfl; kernel_rfl
     · exact (.inr (fun _ _ _ h => h))
     ·rintro zD41  hzD41 
      try replace hle := hle.mono hzD41
      try replace hV := hV.mono hzD41
      refine R.mv ?_; refine R.nl ?_; exact Run.loc rfl Le.rfl' rfl
     apply TY.val [0]; exact rfl; kernel_rfl
     · exact (.inr (fun _ _ _ h => h))
     ·rintro zD42  hzD42 _ rfl
      try replace hle := hle.mono hzD42
      try replace hV := hV.mono hzD42
      first | refine R.nc ?_ | refine R.ncf ?_
      refine R.nl ?_; exact Run.loc rfl Le.rfl' rfl
     apply TY.val [0]; exact rfl; kernel_rfl
     · exact (.inr (fun _ _ _ h => h))
     ·rintro zD43  hzD43 _ rfl
      try replace hle := hle.mono hzD43
      try replace hV := hV.mono hzD43
      refine R.fa Tryz.runUnderlying78 Tryz.sizeOf26 ?_; refine R.nl ?_; exact Run.loc rfl Le.rfl' rfl
     apply TY.val [0]; exact rfl; kernel_rfl
     · exact (.inr (fun _ _ _ h => h))
     ·rintro zD44  hzD44 _ rfl
      try replace hle := hle.mono hzD44
      try replace hV := hV.mono hzD44
      refine R.fa Tryz.runUnderlying26 Tryz.sizeOf24 ?_; refine R.nl ?_; exact Run.loc rfl Le.rfl' rfl
     apply TY.val [0]; exact rfl; kernel_rfl
     · exact (.inr (fun _ _ _ h => h))
     ·rintro zD45  hzD45 _ rfl
      try replace hle := hle.mono hzD45
      try replace hV := hV.mono hzD45
      refine R.ld Tryz.isAgg24 ?_; refine R.nl ?_; exact Run.loc rfl Le.rfl' rfl
     apply TY.val []; exact rfl; kernel_rfl
     · exact (.inr (fun _ _ _ h => h))
     ·rintro zD46  hzD46 
      try replace hle := hle.mono hzD46
      try replace hV := hV.mono hzD46
      refine R.mv ?_; refine R.nl ?_; exact Run.loc rfl Le.rfl' rfl
     apply TY.val []; exact rfl; kernel_rfl
     · exact (.inr (fun _ _ _ h => h))
     ·rintro zD47  hzD47 
      try replace hle := hle.mono hzD47
      try replace hV := hV.mono hzD47
      refine R.fa Tryz.runUnderlying30 Tryz.sizeOf23 ?_; refine R.nl ?_; exact Run.loc rfl Le.rfl' rfl
     apply TY.val [0]; exact rfl; kernel_rfl
     · exact (.inr (fun _ _ _ h => h))
     ·rintro zD48  hzD48 _ rfl
      try replace hle := hle.mono hzD48
      try replace hV := hV.mono hzD48
      refine R.lA 6 Tryz.isAgg23 Tryz.sizeOf23 ?_; refine R.nl ?_; exact Run.loc rfl Le.rfl' rfl
     apply TY.fctM [3, 2, 0]; exact rfl; kernel_rfl
     · exact (.inr (fun _ _ _ h => h))
     ·rintro zD49  hzD49 _ rfl _ rfl _ rfl
      try replace hle := hle.mono hzD49
      try replace hV := hV.mono hzD49
      refine R.gt Tryz.call57 (set_spec src o.h hvn hV) (fun zr3_10 zD50 hzD50 hzr3_10 => ?_)
      try replace hle := hle.mono hzD50
      try replace hV := hV.mono hzD50
      refine R.nl ?_; exact Run.loc rfl hzD50 hzr3_10
     · first | exact fun _ _ _ hR h => h.mono hR | exact fun _ _ _ hR ⟨w, h1, h2⟩ => ⟨w, h1, h2.mono hR⟩
     refine TY.fct [0] (by exact rfl) (by kernel_rfl) (.inr (fun _ _ _ h => h)) (fun v D' => ∃ w, v = .tuple #[w, .int .i64 (t.set src o.h).e] ∧ Vws D' w (t.set src o.h).r.vs) (fun _ _ _ hR ⟨w, h1, h2⟩ => ⟨w, h1, h2.mono hR⟩) ?_ ?_
     ·rintro zD51  hzD51 zr3_10 hzr3_10
      try replace hle := hle.mono hzD51
      try replace hV := hV.mono hzD51
      refine R.mv ?_; refine R.nl ?_; exact Run.loc rfl Le.rfl' hzr3_10
     refine TY.fct [0] (by exact rfl) (by kernel_rfl) (.inr (fun _ _ _ h => h)) (fun v D' => Vws D' v (t.set src o.h).r.vs) (fun _ _ _ hR h => h.mono hR) ?_ ?_
     ·rintro zD52  hzD52 _ ⟨w11, rfl, hw11⟩
      try replace hle := hle.mono hzD52
      try replace hV := hV.mono hzD52
      refine R.ex ?_; refine R.nl ?_; exact Run.loc rfl Le.rfl' hw11
     apply TY.late [1]; exact rfl; kernel_rfl
     ·rintro zD53 zM hzM hzD53 _ ⟨w11, rfl, hw11⟩
      try replace hle := hle.mono hzD53
      try replace hV := hV.mono hzD53
      refine R.ex ?_; refine R.nl ?_; exact Run.loc rfl Le.rfl' rfl
     apply TY.val [13]; exact rfl; kernel_rfl
     · exact (.inr (fun _ _ _ h => h))
     ·rintro zD54  hzD54 _ rfl
      try replace hle := hle.mono hzD54
      try replace hV := hV.mono hzD54
      first | refine R.nc ?_ | refine R.ncf ?_
      refine R.nl ?_; exact Run.loc rfl Le.rfl' rfl
     apply TY.val [0]; exact rfl; kernel_rfl
     · exact (.inr (fun _ _ _ h => h))
     ·rintro zD55  hzD55 _ rfl
      try replace hle := hle.mono hzD55
      try replace hV := hV.mono hzD55
      refine R.fa Tryz.runUnderlying78 Tryz.sizeOf26 ?_; refine R.nl ?_; exact Run.loc rfl Le.rfl' rfl
     apply TY.val [0]; exact rfl; kernel_rfl
     · exact (.inr (fun _ _ _ h => h))
     ·rintro zD56  hzD56 _ rfl
      try replace hle := hle.mono hzD56
      try replace hV := hV.mono hzD56
      refine R.fa Tryz.runUnderlying26 Tryz.sizeOf24 ?_; refine R.nl ?_; exact Run.loc rfl Le.rfl' rfl
     refine TY.eff1 (dx := (none)) [4, 0] (by exact rfl) (by exact rfl) (by kernel_rfl) ?_ ?_ ?_
     ·rintro zD57  hzD57 w12 hw12 _ rfl
      try replace hle := hle.mono hzD57
      try replace hV := hV.mono hzD57
      obtain ⟨A9, c9, hv9, _, _⟩ := hw12.form
      subst hv9
      refine R.st Tryz.sizeOf24 ?_; refine R.nl ?_; exact Run.effn Le.rfl' (⟨_, hw12, rfl⟩)
     · exact .inl (.inr (fun _ _ _ h => h))
     refine TY.fin1 (dx := (none)) (by rfl) (by kernel_rfl) (by exact rfl) ?_; rintro zD58 zv zM ⟨w, hw, rfl⟩ hzD58  _ rfl _ rfl _ rfl _ rfl w12 hw12 _ ⟨w11, rfl, hw11⟩ zr3_10 hzr3_10 _ rfl _ rfl _ rfl _ rfl _ rfl _ rfl _ rfl _ rfl _ rfl _ rfl
     try replace hle := hle.mono hzD58
     try replace hV := hV.mono hzD58
     first | refine R.nc ?_ | refine R.ncf ?_
     refine R.fa Tryz.runUnderlying78 Tryz.sizeOf35 ?_; refine R.st Tryz.sizeOf35 ?_; refine R.nl ?_; refine R.hs (e' := [(0, _), (5, _)]) ?_; refine R.sq ?_; refine Run.drawY Grow.eq 18 16 17 (fun _ => (fun v M' => ∃ b2, v = .pointer (some ⟨b2, 0, none⟩) ∧ M' = (b2, .cells (Ht.cells z0H).toArray 23 (0, 0)) :: ((b5, .cells (Ob.cells o).toArray 30 (0, 0)) :: tb b w so (t.set src o.h) :: (q ++ Z)))) (fun _ => (fun _ _ => False)) (fun _ => (fun v w' M' => ∃ b2, v = .pointer (some ⟨b2, 0, none⟩) ∧ M' = (b2, .cells (Ht.cells (atO (lvlH o.h) (o.h.delta + 1) t.r.me).1).toArray 23 (0, 0)) :: ((b5, .cells (Ob.cells o).toArray 30 (0, 0)) :: tb b w so (t.set src o.h) :: (q ++ Z)))) [(0, _), (5, _)] mix (by kernel_rfl) (by repeat (first | exact trivial | refine ⟨rfl, ?_⟩)) (fun _ _ _ _ _ h => h) (fun _ _ _ _ _ h => h) (fun _ _ _ _ _ _ h => h) ?_; apply TY.late []; exact rfl; kernel_rfl
     ·rintro _ zM hzM rfl ; refine R.fa Tryz.runUnderlying30 Tryz.sizeOf23 ?_; refine R.nl ?_; exact Run.loc rfl rfl rfl
     apply TY.late [0]; exact rfl; kernel_rfl
     ·rintro _ zM hzM rfl _ rfl; refine R.lA 6 Tryz.isAgg23 Tryz.sizeOf23 ?_ (hc := CsN.mkM (show (b5, Obj.cells (Ob.cells o).toArray 30 (0, 0)) ∈ zM from late2 hzM) rfl); refine R.nl ?_; exact Run.loc rfl rfl rfl
     apply TY.late [0]; exact rfl; kernel_rfl
     ·rintro _ zM hzM rfl _ rfl; refine R.cg Tryz.call102 (lvl_spec o.h) ?_; refine R.nl ?_; exact Run.loc rfl rfl rfl
     apply TY.late []; exact rfl; kernel_rfl
     ·rintro _ zM hzM rfl ; refine R.fa Tryz.runUnderlying30 Tryz.sizeOf23 ?_; refine R.nl ?_; exact Run.loc rfl rfl rfl
     apply TY.late [0]; exact rfl; kernel_rfl
     ·rintro _ zM hzM rfl _ rfl; refine R.fa Tryz.runUnderlying23 Tryz.sizeOf3 ?_; refine R.nl ?_; exact Run.loc rfl rfl rfl
     apply TY.late [0]; exact rfl; kernel_rfl
     ·rintro _ zM hzM rfl _ rfl; refine R.ld Tryz.isAgg3 ?_ (hc := Cs.mkM (n := 1) (show (b5, Obj.cells (Ob.cells o).toArray 30 (0, 0)) ∈ zM from late2 hzM) rfl); refine R.nl ?_; exact Run.loc rfl rfl rfl
     apply TY.late [0]; exact rfl; kernel_rfl
     ·rintro _ zM hzM rfl _ rfl; refine R.ad ?_; refine R.nl ?_; exact Run.loc rfl rfl rfl
     apply TY.late []; exact rfl; kernel_rfl
     ·rintro _ zM hzM rfl ; refine R.mv ?_; refine R.nl ?_; exact Run.loc rfl rfl rfl
     apply TY.late [0]; exact rfl; kernel_rfl
     ·rintro _ zM hzM rfl _ rfl
      first | refine R.nc ?_ | refine R.ncf ?_
      refine R.nl ?_; exact Run.loc rfl rfl rfl
     apply TY.late [0]; exact rfl; kernel_rfl
     ·rintro _ zM hzM rfl _ rfl; refine R.fa Tryz.runUnderlying78 Tryz.sizeOf26 ?_; refine R.nl ?_; exact Run.loc rfl rfl rfl
     apply TY.late [0]; exact rfl; kernel_rfl
     ·rintro _ zM hzM rfl _ rfl; refine R.fa Tryz.runUnderlying26 Tryz.sizeOf3 ?_; refine R.nl ?_; exact Run.loc rfl rfl rfl
     apply TY.late [0]; exact rfl; kernel_rfl
     ·rintro _ zM hzM rfl _ rfl; refine R.ld Tryz.isAgg3 ?_ (hc := Cs.mkM (n := 1) (show tb b w so (t.set src o.h) ∈ zM from late3 hzM) rfl); refine R.nl ?_; exact Run.loc rfl rfl rfl
     apply TY.late [9, 5, 0]; exact rfl; kernel_rfl
     ·rintro _ zM hzM rfl _ rfl _ rfl _ rfl; refine R.cg Tryz.call49 (hAt_spec (lvlH o.h) (o.h.delta + 1) t.r.me) ?_; refine R.nl ?_; exact Run.loc rfl rfl rfl
     apply TY.late [0]; exact rfl; kernel_rfl
     ·rintro _ zM hzM rfl _ rfl; refine R.mv ?_; refine R.nl ?_; exact Run.loc rfl rfl rfl
     apply TY.late [0]; exact rfl; kernel_rfl
     ·rintro _ zM hzM rfl _ rfl; refine R.ex ?_; refine R.nl ?_; exact Run.loc rfl rfl rfl
     apply TY.late [1]; exact rfl; kernel_rfl
     ·rintro _ zM hzM rfl _ rfl; refine R.ex ?_; refine R.nl ?_; exact Run.loc rfl rfl rfl
     refine TY.eff1 (dx := (some 6)) [] (by exact rfl) (by exact rfl) (by kernel_rfl) ?_ ?_ ?_
     ·rintro _  rfl ; refine R.alA Tryz.zeroValue23 (fun b6 hb6 => ?_); refine R.nl ?_; exact Run.effv rfl rfl (⟨b6, rfl, rfl⟩)
     · exact .inl (.inr (fun _ _ _ h => h))
     refine TY.eff2 (dy := (none)) [2] (by exact rfl) (by exact rfl) (by kernel_rfl) ?_ ?_ ?_
     ·rintro _ zv zM ⟨b6, rfl, rfl⟩ rfl _ rfl; refine R.st Tryz.sizeOf23 ?_; refine R.nl ?_; exact Run.effn rfl (⟨b6, rfl, rfl⟩)
     · exact .inl (by kernel_rfl)
     refine TY.fin2 (dx := (some 6)) (dy := (none)) (by rfl) (by kernel_rfl) (by exact rfl) (by exact rfl) ?_; rintro _ zv zv2 zM ⟨b6, rfl, rfl⟩ rfl   _ rfl _ rfl _ rfl _ rfl _ rfl _ rfl _ rfl _ rfl _ rfl _ rfl _ rfl _ rfl _ rfl _ rfl _ rfl _ rfl; refine R.as ?_; refine R.nl ?_; refine R.hs (e' := [(0, _), (5, _), (6, _), (7, _)]) ?_; refine R.sq ?_; refine R.sq ?_; refine R.rg ?_; refine R.mv ?_; refine R.cm ?_; refine R.nl ?_; refine R.hs (e' := [(0, _), (5, _), (6, _), (7, _), (68, _)]) ?_; refine R.cd (fun zc79 => ?_) (fun zc79 => ?_)
     ·
      have he : (atO (lvlH o.h) (o.h.delta + 1) t.r.me).2 ≠ 0 := by simpa [atO] using zc79
      have hs : t.opt src o = { t.set src o.h with e := (atO (lvlH o.h) (o.h.delta + 1) t.r.me).2 } := by rw [Tn.opt, if_neg hc, if_pos he]
      refine R.sq ?_; refine R.rg ?_; refine R.mv ?_; refine R.mv ?_
      first | refine R.nc ?_ | refine R.ncf ?_
      refine R.fa Tryz.runUnderlying78 Tryz.sizeOf35 ?_; refine R.st Tryz.sizeOf35 ?_; refine R.nl ?_; refine R.hs (e' := []) ?_
      rw [hs]
      first
      | exact R.rk .nil 1 ⟨_ :: q1, ⟨rfl, hl1, sv1, so1, q1, hV1, hO1, rfl⟩, rfl⟩
      | exact R.rk .nil 2 ⟨_ :: q, ⟨rfl, hle, w, so, q, hw, hO, rfl⟩, rfl⟩
      | exact R.fn (u := .tuple #[]) .nil 2 ⟨_ :: q1, ⟨rfl, hle.trans hl1, sv1, so1, q1, hV1, hO1, rfl⟩, rfl⟩
     ·
      have he : ¬ (atO (lvlH o.h) (o.h.delta + 1) t.r.me).2 ≠ 0 := by simpa [atO] using zc79
      have hs : t.opt src o = ({ t.set src o.h with r := { (t.set src o.h).r with own := (atO (lvlH o.h) (o.h.delta + 1) t.r.me).1, asked := false } } : Tn).refresh o.num := by rw [Tn.opt, if_neg hc, if_neg he]
      refine Run.skip ?_; refine R.sq ?_; refine R.rg ?_; refine R.mv ?_; refine R.mv ?_; refine R.lA 6 Tryz.isAgg23 Tryz.sizeOf23 ?_
      first | refine R.nc ?_ | refine R.ncf ?_
      refine R.fa Tryz.runUnderlying78 Tryz.sizeOf26 ?_; refine R.fa Tryz.runUnderlying26 Tryz.sizeOf23 ?_; refine R.st Tryz.sizeOf23 ?_
      first | refine R.nc ?_ | refine R.ncf ?_
      refine R.fa Tryz.runUnderlying78 Tryz.sizeOf26 ?_; refine R.fa Tryz.runUnderlying26 Tryz.sizeOf4 ?_; refine R.st Tryz.sizeOf4 ?_; refine R.nl ?_; refine R.hs (e' := [(0, _), (5, _)]) ?_; refine R.rg ?_; refine R.mv ?_; refine R.fa Tryz.runUnderlying30 Tryz.sizeOf3 ?_; refine R.ld Tryz.isAgg3 ?_; refine R.ca Tryz.call73 ((refresh_spec ({ t.set src o.h with r := { (t.set src o.h).r with own := (atO (lvlH o.h) (o.h.delta + 1) t.r.me).1, asked := false } } : Tn) o.num (by show t.out.length ≤ 10000; omega)).at hw hO [(b6, .cells (Ht.cells (atO (lvlH o.h) (o.h.delta + 1) t.r.me).1).toArray 23 (0, 0)), (b5, .cells (Ob.cells o).toArray 30 (0, 0))] Z) ?_; rintro _ D1 _ ⟨rfl, hl1, sv1, so1, q1, hV1, hO1, rfl⟩; refine R.nl ?_; refine R.hs (e' := []) ?_
      rw [hs]
      first
      | exact R.rk .nil 1 ⟨_ :: q1, ⟨rfl, hl1, sv1, so1, q1, hV1, hO1, rfl⟩, rfl⟩
      | exact R.rk .nil 2 ⟨_ :: q, ⟨rfl, hle, w, so, q, hw, hO, rfl⟩, rfl⟩
      | exact R.fn (u := .tuple #[]) .nil 2 ⟨_ :: q1, ⟨rfl, hle.trans hl1, sv1, so1, q1, hV1, hO1, rfl⟩, rfl⟩
   ·refine Run.drawC Grow.eq 16 [(0, _), (1, _), (5, _)] mix (by kernel_rfl) (by repeat (first | exact trivial | refine ⟨rfl, ?_⟩)) ?_; apply TC.val []; exact rfl; kernel_rfl
    ·rintro _  rfl ; refine R.mv ?_; refine R.nl ?_; exact Run.loc rfl rfl rfl
    apply TC.val [0]; exact rfl; kernel_rfl
    ·rintro _  rfl _ rfl; refine R.cg Tryz.call95 (home_spec (t := t) (.tail _ (.head _))) ?_; refine R.nl ?_; exact Run.loc rfl rfl rfl
    apply TC.val [0]; exact rfl; kernel_rfl
    ·rintro _  rfl _ rfl; refine R.mv ?_; refine R.nl ?_; exact Run.loc rfl rfl rfl
    apply TC.val [0]; exact rfl; kernel_rfl
    ·rintro _  rfl _ rfl; refine R.gY (zg2) ?_; refine R.mv ?_; refine R.nl ?_; exact Run.loc rfl rfl rfl
    apply TC.val [1, 0]; exact rfl; kernel_rfl
    ·rintro _  rfl _ rfl _ rfl; refine R.gY (zg2) ?_
     first | refine R.nc ?_ | refine R.ncf ?_
     refine R.nl ?_; exact Run.loc rfl rfl rfl
    apply TC.val [2, 0]; exact rfl; kernel_rfl
    ·rintro _  rfl _ rfl _ rfl; refine R.gY (zg2) ?_; refine R.fa Tryz.runUnderlying78 Tryz.sizeOf26 ?_; refine R.nl ?_; exact Run.loc rfl rfl rfl
    apply TC.val [3, 0]; exact rfl; kernel_rfl
    ·rintro _  rfl _ rfl _ rfl; refine R.gY (zg2) ?_; refine R.fa Tryz.runUnderlying26 Tryz.sizeOf4 ?_; refine R.nl ?_; exact Run.loc rfl rfl rfl
    apply TC.val [4, 0]; exact rfl; kernel_rfl
    ·rintro _  rfl _ rfl _ rfl; refine R.gY (zg2) ?_; refine R.ld Tryz.isAgg4 ?_; refine R.nl ?_; exact Run.loc rfl rfl rfl
    apply TC.val [5, 0]; exact rfl; kernel_rfl
    ·rintro _  rfl _ rfl _ rfl; refine R.gY (zg2) ?_; refine R.mv ?_; refine R.nl ?_; exact Run.loc rfl rfl rfl
    apply TC.val [0]; exact rfl; kernel_rfl
    ·rintro _  rfl _ rfl; refine R.gF (zg20) ?_; refine R.nl ?_; exact Run.loc rfl rfl rfl
    apply TC.val [1, 0]; exact rfl; kernel_rfl
    ·rintro _  rfl _ rfl _ rfl; refine R.gF (zg20) ?_; refine R.nl ?_; exact Run.loc rfl rfl rfl
    apply TC.val [2, 0]; exact rfl; kernel_rfl
    ·rintro _  rfl _ rfl _ rfl; refine R.gF (zg20) ?_; refine R.nl ?_; exact Run.loc rfl rfl rfl
    apply TC.val [3, 0]; exact rfl; kernel_rfl
    ·rintro _  rfl _ rfl _ rfl; refine R.gF (zg20) ?_; refine R.nl ?_; exact Run.loc rfl rfl rfl
    apply TC.val [4, 0]; exact rfl; kernel_rfl
    ·rintro _  rfl _ rfl _ rfl; refine R.gF (zg20) ?_; refine R.nl ?_; exact Run.loc rfl rfl rfl
    apply TC.val [5]; exact rfl; kernel_rfl
    ·rintro _  rfl _ rfl; refine R.gF (zg20) ?_; refine R.nl ?_; exact Run.loc rfl rfl rfl
    apply TC.val [6, 0]; exact rfl; kernel_rfl
    ·rintro _  rfl _ rfl _ rfl; refine R.gF (zg20) ?_; refine R.nl ?_; exact Run.loc rfl rfl rfl
    refine TC.fin (by rfl) ?_; rintro _  rfl _ rfl _ rfl _ rfl _ rfl _ rfl _ rfl _ rfl _ rfl _ rfl _ rfl _ rfl _ rfl _ rfl _ rfl _ rfl _ rfl; refine R.gF (zg20) ?_; refine R.gF (zg20) ?_; refine R.gY (zg2) ?_; refine R.pF (zg20) ?_; refine R.pF (zg2) ?_; refine R.nl ?_; refine R.hs (e' := [(0, _), (1, _), (5, _), (27, _)]) ?_; refine R.cF (rfl) ?_
    have hc : ¬ (t.home || (t.r.heard && !lessN t.r.last o.num)) = true := by simp_all
    refine Run.skip ?_; refine R.sq ?_; refine Run.drawY Grow.le 18 17 21 (fun D v M' => ∃ w, Vws D w (t.set src o.h).r.vs ∧ M' = (b5, .cells (Ob.cells o).toArray 30 (0, 0)) :: tb b w so { t with r := { t.r with vs := (t.set src o.h).r.vs } } :: (q ++ Z)) (fun _ _ _ => False) (fun _ _ _ _ => False) [(0, _), (1, _), (5, _)] mix (by kernel_rfl) (by repeat (first | exact trivial | refine ⟨rfl, ?_⟩)) (fun _ _ _ _ hR ⟨w, h1, h2⟩ => ⟨w, h1.mono hR, h2⟩) (fun _ _ _ _ _ h => h) (fun _ _ _ _ _ _ h => h) ?_; apply TY.val []; exact rfl; kernel_rfl
    · exact (.inr (fun _ _ _ h => h))
    ·rintro zD97  hzD97 
     try replace hle := hle.mono hzD97
     try replace hV := hV.mono hzD97
     try replace hzr3_10 := hzr3_10.mono hzD97
     refine R.mv ?_; refine R.nl ?_; exact Run.loc rfl Le.rfl' rfl
    apply TY.late []; exact rfl; kernel_rfl
    ·rintro zD98 zM hzM hzD98 
     try replace hle := hle.mono hzD98
     try replace hV := hV.mono hzD98
     try replace hzr3_10 := hzr3_10.mono hzD98
     refine R.mv ?_; refine R.nl ?_; exact Run.loc rfl Le.rfl' rfl
    apply TY.val []; exact rfl; kernel_rfl
    · exact (.inr (fun _ _ _ h => h))
    ·rintro zD99  hzD99 
     try replace hle := hle.mono hzD99
     try replace hV := hV.mono hzD99
     try replace hzr3_10 := hzr3_10.mono hzD99
     refine R.mv ?_; refine R.nl ?_; exact Run.loc rfl Le.rfl' rfl
    apply TY.val [0]; exact rfl; kernel_rfl
    · exact (.inr (fun _ _ _ h => h))
    ·rintro zD100  hzD100 _ rfl
     try replace hle := hle.mono hzD100
     try replace hV := hV.mono hzD100
     try replace hzr3_10 := hzr3_10.mono hzD100
     first | refine R.nc ?_ | refine R.ncf ?_
     refine R.nl ?_; exact Run.loc rfl Le.rfl' rfl
    apply TY.val [0]; exact rfl; kernel_rfl
    · exact (.inr (fun _ _ _ h => h))
    ·rintro zD101  hzD101 _ rfl
     try replace hle := hle.mono hzD101
     try replace hV := hV.mono hzD101
     try replace hzr3_10 := hzr3_10.mono hzD101
     refine R.fa Tryz.runUnderlying78 Tryz.sizeOf26 ?_; refine R.nl ?_; exact Run.loc rfl Le.rfl' rfl
    apply TY.val [0]; exact rfl; kernel_rfl
    · exact (.inr (fun _ _ _ h => h))
    ·rintro zD102  hzD102 _ rfl
     try replace hle := hle.mono hzD102
     try replace hV := hV.mono hzD102
     try replace hzr3_10 := hzr3_10.mono hzD102
     refine R.fa Tryz.runUnderlying26 Tryz.sizeOf24 ?_; refine R.nl ?_; exact Run.loc rfl Le.rfl' rfl
    apply TY.val [0]; exact rfl; kernel_rfl
    · exact (.inr (fun _ _ _ h => h))
    ·rintro zD103  hzD103 _ rfl
     try replace hle := hle.mono hzD103
     try replace hV := hV.mono hzD103
     try replace hzr3_10 := hzr3_10.mono hzD103
     refine R.ld Tryz.isAgg24 ?_; refine R.nl ?_; exact Run.loc rfl Le.rfl' rfl
    apply TY.val []; exact rfl; kernel_rfl
    · exact (.inr (fun _ _ _ h => h))
    ·rintro zD104  hzD104 
     try replace hle := hle.mono hzD104
     try replace hV := hV.mono hzD104
     try replace hzr3_10 := hzr3_10.mono hzD104
     refine R.mv ?_; refine R.nl ?_; exact Run.loc rfl Le.rfl' rfl
    apply TY.val []; exact rfl; kernel_rfl
    · exact (.inr (fun _ _ _ h => h))
    ·rintro zD105  hzD105 
     try replace hle := hle.mono hzD105
     try replace hV := hV.mono hzD105
     try replace hzr3_10 := hzr3_10.mono hzD105
     refine R.fa Tryz.runUnderlying30 Tryz.sizeOf23 ?_; refine R.nl ?_; exact Run.loc rfl Le.rfl' rfl
    apply TY.val [0]; exact rfl; kernel_rfl
    · exact (.inr (fun _ _ _ h => h))
    ·rintro zD106  hzD106 _ rfl
     try replace hle := hle.mono hzD106
     try replace hV := hV.mono hzD106
     try replace hzr3_10 := hzr3_10.mono hzD106
     refine R.lA 6 Tryz.isAgg23 Tryz.sizeOf23 ?_; refine R.nl ?_; exact Run.loc rfl Le.rfl' rfl
    apply TY.fctM [3, 2, 0]; exact rfl; kernel_rfl
    · exact (.inr (fun _ _ _ h => h))
    ·rintro zD107  hzD107 _ rfl _ rfl _ rfl
     try replace hle := hle.mono hzD107
     try replace hV := hV.mono hzD107
     try replace hzr3_10 := hzr3_10.mono hzD107
     refine R.gt Tryz.call57 (set_spec src o.h hvn hV) (fun zr3_10 zD108 hzD108 hzr3_10 => ?_)
     try replace hle := hle.mono hzD108
     try replace hV := hV.mono hzD108
     try replace hzr3_10 := hzr3_10.mono hzD108
     refine R.nl ?_; exact Run.loc rfl hzD108 hzr3_10
    · first | exact fun _ _ _ hR h => h.mono hR | exact fun _ _ _ hR ⟨w, h1, h2⟩ => ⟨w, h1, h2.mono hR⟩
    refine TY.fct [0] (by exact rfl) (by kernel_rfl) (.inr (fun _ _ _ h => h)) (fun v D' => ∃ w, v = .tuple #[w, .int .i64 (t.set src o.h).e] ∧ Vws D' w (t.set src o.h).r.vs) (fun _ _ _ hR ⟨w, h1, h2⟩ => ⟨w, h1, h2.mono hR⟩) ?_ ?_
    ·rintro zD109  hzD109 zr3_10 hzr3_10
     try replace hle := hle.mono hzD109
     try replace hV := hV.mono hzD109
     try replace hzr3_10 := hzr3_10.mono hzD109
     refine R.mv ?_; refine R.nl ?_; exact Run.loc rfl Le.rfl' hzr3_10
    refine TY.fct [0] (by exact rfl) (by kernel_rfl) (.inr (fun _ _ _ h => h)) (fun v D' => Vws D' v (t.set src o.h).r.vs) (fun _ _ _ hR h => h.mono hR) ?_ ?_
    ·rintro zD110  hzD110 _ ⟨w11, rfl, hw11⟩
     try replace hle := hle.mono hzD110
     try replace hV := hV.mono hzD110
     try replace hzr3_10 := hzr3_10.mono hzD110
     refine R.ex ?_; refine R.nl ?_; exact Run.loc rfl Le.rfl' hw11
    apply TY.late [1]; exact rfl; kernel_rfl
    ·rintro zD111 zM hzM hzD111 _ ⟨w11, rfl, hw11⟩
     try replace hle := hle.mono hzD111
     try replace hV := hV.mono hzD111
     try replace hzr3_10 := hzr3_10.mono hzD111
     refine R.ex ?_; refine R.nl ?_; exact Run.loc rfl Le.rfl' rfl
    apply TY.val [13]; exact rfl; kernel_rfl
    · exact (.inr (fun _ _ _ h => h))
    ·rintro zD112  hzD112 _ rfl
     try replace hle := hle.mono hzD112
     try replace hV := hV.mono hzD112
     try replace hzr3_10 := hzr3_10.mono hzD112
     first | refine R.nc ?_ | refine R.ncf ?_
     refine R.nl ?_; exact Run.loc rfl Le.rfl' rfl
    apply TY.val [0]; exact rfl; kernel_rfl
    · exact (.inr (fun _ _ _ h => h))
    ·rintro zD113  hzD113 _ rfl
     try replace hle := hle.mono hzD113
     try replace hV := hV.mono hzD113
     try replace hzr3_10 := hzr3_10.mono hzD113
     refine R.fa Tryz.runUnderlying78 Tryz.sizeOf26 ?_; refine R.nl ?_; exact Run.loc rfl Le.rfl' rfl
    apply TY.val [0]; exact rfl; kernel_rfl
    · exact (.inr (fun _ _ _ h => h))
    ·rintro zD114  hzD114 _ rfl
     try replace hle := hle.mono hzD114
     try replace hV := hV.mono hzD114
     try replace hzr3_10 := hzr3_10.mono hzD114
     refine R.fa Tryz.runUnderlying26 Tryz.sizeOf24 ?_; refine R.nl ?_; exact Run.loc rfl Le.rfl' rfl
    refine TY.eff1 (dx := (none)) [4, 0] (by exact rfl) (by exact rfl) (by kernel_rfl) ?_ ?_ ?_
    ·rintro zD115  hzD115 w12 hw12 _ rfl
     try replace hle := hle.mono hzD115
     try replace hV := hV.mono hzD115
     try replace hzr3_10 := hzr3_10.mono hzD115
     obtain ⟨A9, c9, hv9, _, _⟩ := hw12.form
     subst hv9
     refine R.st Tryz.sizeOf24 ?_; refine R.nl ?_; exact Run.effn Le.rfl' (⟨_, hw12, rfl⟩)
    · exact .inl (.inr (fun _ _ _ h => h))
    refine TY.fin1 (dx := (none)) (by rfl) (by kernel_rfl) (by exact rfl) ?_; rintro zD116 zv zM ⟨w, hw, rfl⟩ hzD116  _ rfl _ rfl _ rfl _ rfl w12 hw12 _ ⟨w11, rfl, hw11⟩ zr3_10 hzr3_10 _ rfl _ rfl _ rfl _ rfl _ rfl _ rfl _ rfl _ rfl _ rfl _ rfl
    try replace hle := hle.mono hzD116
    try replace hV := hV.mono hzD116
    try replace hzr3_10 := hzr3_10.mono hzD116
    first | refine R.nc ?_ | refine R.ncf ?_
    refine R.fa Tryz.runUnderlying78 Tryz.sizeOf35 ?_; refine R.st Tryz.sizeOf35 ?_; refine R.nl ?_; refine R.hs (e' := [(0, _), (5, _)]) ?_; refine R.sq ?_; refine Run.drawY Grow.eq 18 16 17 (fun _ => (fun v M' => ∃ b2, v = .pointer (some ⟨b2, 0, none⟩) ∧ M' = (b2, .cells (Ht.cells z0H).toArray 23 (0, 0)) :: ((b5, .cells (Ob.cells o).toArray 30 (0, 0)) :: tb b w so (t.set src o.h) :: (q ++ Z)))) (fun _ => (fun _ _ => False)) (fun _ => (fun v w' M' => ∃ b2, v = .pointer (some ⟨b2, 0, none⟩) ∧ M' = (b2, .cells (Ht.cells (atO (lvlH o.h) (o.h.delta + 1) t.r.me).1).toArray 23 (0, 0)) :: ((b5, .cells (Ob.cells o).toArray 30 (0, 0)) :: tb b w so (t.set src o.h) :: (q ++ Z)))) [(0, _), (5, _)] mix (by kernel_rfl) (by repeat (first | exact trivial | refine ⟨rfl, ?_⟩)) (fun _ _ _ _ _ h => h) (fun _ _ _ _ _ h => h) (fun _ _ _ _ _ _ h => h) ?_; apply TY.late []; exact rfl; kernel_rfl
    ·rintro _ zM hzM rfl ; refine R.fa Tryz.runUnderlying30 Tryz.sizeOf23 ?_; refine R.nl ?_; exact Run.loc rfl rfl rfl
    apply TY.late [0]; exact rfl; kernel_rfl
    ·rintro _ zM hzM rfl _ rfl; refine R.lA 6 Tryz.isAgg23 Tryz.sizeOf23 ?_ (hc := CsN.mkM (show (b5, Obj.cells (Ob.cells o).toArray 30 (0, 0)) ∈ zM from late2 hzM) rfl); refine R.nl ?_; exact Run.loc rfl rfl rfl
    apply TY.late [0]; exact rfl; kernel_rfl
    ·rintro _ zM hzM rfl _ rfl; refine R.cg Tryz.call102 (lvl_spec o.h) ?_; refine R.nl ?_; exact Run.loc rfl rfl rfl
    apply TY.late []; exact rfl; kernel_rfl
    ·rintro _ zM hzM rfl ; refine R.fa Tryz.runUnderlying30 Tryz.sizeOf23 ?_; refine R.nl ?_; exact Run.loc rfl rfl rfl
    apply TY.late [0]; exact rfl; kernel_rfl
    ·rintro _ zM hzM rfl _ rfl; refine R.fa Tryz.runUnderlying23 Tryz.sizeOf3 ?_; refine R.nl ?_; exact Run.loc rfl rfl rfl
    apply TY.late [0]; exact rfl; kernel_rfl
    ·rintro _ zM hzM rfl _ rfl; refine R.ld Tryz.isAgg3 ?_ (hc := Cs.mkM (n := 1) (show (b5, Obj.cells (Ob.cells o).toArray 30 (0, 0)) ∈ zM from late2 hzM) rfl); refine R.nl ?_; exact Run.loc rfl rfl rfl
    apply TY.late [0]; exact rfl; kernel_rfl
    ·rintro _ zM hzM rfl _ rfl; refine R.ad ?_; refine R.nl ?_; exact Run.loc rfl rfl rfl
    apply TY.late []; exact rfl; kernel_rfl
    ·rintro _ zM hzM rfl ; refine R.mv ?_; refine R.nl ?_; exact Run.loc rfl rfl rfl
    apply TY.late [0]; exact rfl; kernel_rfl
    ·rintro _ zM hzM rfl _ rfl
     first | refine R.nc ?_ | refine R.ncf ?_
     refine R.nl ?_; exact Run.loc rfl rfl rfl
    apply TY.late [0]; exact rfl; kernel_rfl
    ·rintro _ zM hzM rfl _ rfl; refine R.fa Tryz.runUnderlying78 Tryz.sizeOf26 ?_; refine R.nl ?_; exact Run.loc rfl rfl rfl
    apply TY.late [0]; exact rfl; kernel_rfl
    ·rintro _ zM hzM rfl _ rfl; refine R.fa Tryz.runUnderlying26 Tryz.sizeOf3 ?_; refine R.nl ?_; exact Run.loc rfl rfl rfl
    apply TY.late [0]; exact rfl; kernel_rfl
    ·rintro _ zM hzM rfl _ rfl; refine R.ld Tryz.isAgg3 ?_ (hc := Cs.mkM (n := 1) (show tb b w so (t.set src o.h) ∈ zM from late3 hzM) rfl); refine R.nl ?_; exact Run.loc rfl rfl rfl
    apply TY.late [9, 5, 0]; exact rfl; kernel_rfl
    ·rintro _ zM hzM rfl _ rfl _ rfl _ rfl; refine R.cg Tryz.call49 (hAt_spec (lvlH o.h) (o.h.delta + 1) t.r.me) ?_; refine R.nl ?_; exact Run.loc rfl rfl rfl
    apply TY.late [0]; exact rfl; kernel_rfl
    ·rintro _ zM hzM rfl _ rfl; refine R.mv ?_; refine R.nl ?_; exact Run.loc rfl rfl rfl
    apply TY.late [0]; exact rfl; kernel_rfl
    ·rintro _ zM hzM rfl _ rfl; refine R.ex ?_; refine R.nl ?_; exact Run.loc rfl rfl rfl
    apply TY.late [1]; exact rfl; kernel_rfl
    ·rintro _ zM hzM rfl _ rfl; refine R.ex ?_; refine R.nl ?_; exact Run.loc rfl rfl rfl
    refine TY.eff1 (dx := (some 6)) [] (by exact rfl) (by exact rfl) (by kernel_rfl) ?_ ?_ ?_
    ·rintro _  rfl ; refine R.alA Tryz.zeroValue23 (fun b6 hb6 => ?_); refine R.nl ?_; exact Run.effv rfl rfl (⟨b6, rfl, rfl⟩)
    · exact .inl (.inr (fun _ _ _ h => h))
    refine TY.eff2 (dy := (none)) [2] (by exact rfl) (by exact rfl) (by kernel_rfl) ?_ ?_ ?_
    ·rintro _ zv zM ⟨b6, rfl, rfl⟩ rfl _ rfl; refine R.st Tryz.sizeOf23 ?_; refine R.nl ?_; exact Run.effn rfl (⟨b6, rfl, rfl⟩)
    · exact .inl (by kernel_rfl)
    refine TY.fin2 (dx := (some 6)) (dy := (none)) (by rfl) (by kernel_rfl) (by exact rfl) (by exact rfl) ?_; rintro _ zv zv2 zM ⟨b6, rfl, rfl⟩ rfl   _ rfl _ rfl _ rfl _ rfl _ rfl _ rfl _ rfl _ rfl _ rfl _ rfl _ rfl _ rfl _ rfl _ rfl _ rfl _ rfl; refine R.as ?_; refine R.nl ?_; refine R.hs (e' := [(0, _), (5, _), (6, _), (7, _)]) ?_; refine R.sq ?_; refine R.sq ?_; refine R.rg ?_; refine R.mv ?_; refine R.cm ?_; refine R.nl ?_; refine R.hs (e' := [(0, _), (5, _), (6, _), (7, _), (68, _)]) ?_; refine R.cd (fun zc137 => ?_) (fun zc137 => ?_)
    ·
     have he : (atO (lvlH o.h) (o.h.delta + 1) t.r.me).2 ≠ 0 := by simpa [atO] using zc137
     have hs : t.opt src o = { t.set src o.h with e := (atO (lvlH o.h) (o.h.delta + 1) t.r.me).2 } := by rw [Tn.opt, if_neg hc, if_pos he]
     refine R.sq ?_; refine R.rg ?_; refine R.mv ?_; refine R.mv ?_
     first | refine R.nc ?_ | refine R.ncf ?_
     refine R.fa Tryz.runUnderlying78 Tryz.sizeOf35 ?_; refine R.st Tryz.sizeOf35 ?_; refine R.nl ?_; refine R.hs (e' := []) ?_
     rw [hs]
     first
     | exact R.rk .nil 1 ⟨_ :: q1, ⟨rfl, hl1, sv1, so1, q1, hV1, hO1, rfl⟩, rfl⟩
     | exact R.rk .nil 2 ⟨_ :: q, ⟨rfl, hle, w, so, q, hw, hO, rfl⟩, rfl⟩
     | exact R.fn (u := .tuple #[]) .nil 2 ⟨_ :: q1, ⟨rfl, hle.trans hl1, sv1, so1, q1, hV1, hO1, rfl⟩, rfl⟩
    ·
     have he : ¬ (atO (lvlH o.h) (o.h.delta + 1) t.r.me).2 ≠ 0 := by simpa [atO] using zc137
     have hs : t.opt src o = ({ t.set src o.h with r := { (t.set src o.h).r with own := (atO (lvlH o.h) (o.h.delta + 1) t.r.me).1, asked := false } } : Tn).refresh o.num := by rw [Tn.opt, if_neg hc, if_neg he]
     refine Run.skip ?_; refine R.sq ?_; refine R.rg ?_; refine R.mv ?_; refine R.mv ?_; refine R.lA 6 Tryz.isAgg23 Tryz.sizeOf23 ?_
     first | refine R.nc ?_ | refine R.ncf ?_
     refine R.fa Tryz.runUnderlying78 Tryz.sizeOf26 ?_; refine R.fa Tryz.runUnderlying26 Tryz.sizeOf23 ?_; refine R.st Tryz.sizeOf23 ?_
     first | refine R.nc ?_ | refine R.ncf ?_
     refine R.fa Tryz.runUnderlying78 Tryz.sizeOf26 ?_; refine R.fa Tryz.runUnderlying26 Tryz.sizeOf4 ?_; refine R.st Tryz.sizeOf4 ?_; refine R.nl ?_; refine R.hs (e' := [(0, _), (5, _)]) ?_; refine R.rg ?_; refine R.mv ?_; refine R.fa Tryz.runUnderlying30 Tryz.sizeOf3 ?_; refine R.ld Tryz.isAgg3 ?_; refine R.ca Tryz.call73 ((refresh_spec ({ t.set src o.h with r := { (t.set src o.h).r with own := (atO (lvlH o.h) (o.h.delta + 1) t.r.me).1, asked := false } } : Tn) o.num (by show t.out.length ≤ 10000; omega)).at hw hO [(b6, .cells (Ht.cells (atO (lvlH o.h) (o.h.delta + 1) t.r.me).1).toArray 23 (0, 0)), (b5, .cells (Ob.cells o).toArray 30 (0, 0))] Z) ?_; rintro _ D1 _ ⟨rfl, hl1, sv1, so1, q1, hV1, hO1, rfl⟩; refine R.nl ?_; refine R.hs (e' := []) ?_
     rw [hs]
     first
     | exact R.rk .nil 1 ⟨_ :: q1, ⟨rfl, hl1, sv1, so1, q1, hV1, hO1, rfl⟩, rfl⟩
     | exact R.rk .nil 2 ⟨_ :: q, ⟨rfl, hle, w, so, q, hw, hO, rfl⟩, rfl⟩
     | exact R.fn (u := .tuple #[]) .nil 2 ⟨_ :: q1, ⟨rfl, hle.trans hl1, sv1, so1, q1, hV1, hO1, rfl⟩, rfl⟩
end Go.Proofs.YtgdpjpmjcpieiaaGreat
