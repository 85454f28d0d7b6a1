/- What maintenance says: the program's answer is the document's. No condition. -/
import Derived.Test.YtgdpjpmjcpieiaaCs2
import Derived.Test.YtgdpjpmjcpieiaaL5
namespace Go.Proofs.Ytgdpjpmjcpieiaa
open Go
set_option linter.unusedVariables false
set_option linter.unusedSimpArgs false
set_option maxRecDepth 100000
set_option maxHeartbeats 0

section
variable {P : Program} {n : Nat} {Q : Exit → Act → World → Prop} {g : Gl} {k : List It} {e : Env} {D : Dict} {M : MList}
theorem R.frz {b : Nat} {o : Obj} (h : ∀ D', Le D D' → D' b = some o → Run P n Q g k e D' M) : Run P n Q g k e D ((b, o) :: M) := Run.freeze fun hle _ => h _ hle ins_self
end
theorem CsD.ofD {D : Dict} {b off sz : Nat} {vs l : List Value} {T : TypeId} {fr : Nat × Nat} (h : D b = some (.cells l.toArray T fr)) (ht : takeN off sz l = some vs) : CsD D b off sz vs := by
  obtain ⟨h1, h2⟩ := takeN_spec ht
  refine ⟨⟨_, T, fr, h, fun j u hu => ?_⟩, h1⟩
  have hj : j < sz := by
    rcases Nat.lt_or_ge j vs.length with h | h
    · omega
    · rw [List.getElem?_eq_none h] at hu; cases hu
  rw [List.getElem?_toArray, h2 j hj]; exact hu
structure Rl where
  no : Int
  is : Value
  says : Value
abbrev Rl.cells (r : Rl) : List Value := [.int .i64 r.no, r.is, r.says]
theorem Rl.len (o : Rl) : o.cells.length = 3 := rfl
abbrev fnV (f : FuncId) (cap : List Value) : Value := .func (.func f) #[] cap.toArray
def FnB (P : Program) (D : Dict) (v : Value) (b : Bool) : Prop := ∃ f cap, v = fnV f cap ∧ (∀ args w, (callFunc f args).run P w = .ok (.enter f args) w) ∧ ∀ g M, Gives P g f cap D M (.bool b)
def FnH (P : Program) (D : Dict) (v : Value) (p : Ht × Int) : Prop := ∃ f cap, v = fnV f cap ∧ (∀ args w, (callFunc f args).run P w = .ok (.enter f args) w) ∧ ∀ g M, Gives P g f cap D M (.tuple #[.agg (Ht.cells p.1).toArray, .int .i64 p.2])
theorem case_spec {g : Gl} {D : Dict} {M : MList} {a : Value} {xs : List Vw} (own : Ht) (now : Int) (lost : Bool) (hn : xs.length ≤ 1000) (ha : Vws D a xs) :
    Gives Try.prog g 11 [.agg (Ht.cells own).toArray, a, .int .i64 now, .bool lost] D M (caseOut (caseV own xs now lost)) := by
  have hle : Le D D := Le.rfl'
  obtain ⟨A, c, hva, _, _⟩ := ha.form
  subst hva
  refine Gives.enter Try.func11 rfl Try.ntmps11 ?_
  refine R.sq ?_
  refine R.rg ?_
  refine R.bxA (fun b4 hb4 => ?_)
  refine R.bx1 (fun b5 hb5 => ?_)
  refine R.bx1 (fun b6 hb6 => ?_)
  refine R.bx1 (fun b7 hb7 => ?_)
  refine R.alA Try.zeroValue23 (fun b8 hb8 => ?_)
  refine R.as ?_
  refine R.as ?_
  refine R.nl ?_
  refine R.hs (e' := [(4, _), (5, _), (6, _), (7, _), (8, _)]) ?_
  refine Run.scope ?_
  refine R.sq ?_
  refine R.sq ?_
  refine R.rg ?_
  refine R.lA 6 Try.isAgg23 Try.sizeOf23 ?_
  refine R.cg Try.call25 (hCheck_spec own) ?_
  refine R.cm ?_
  refine R.mv ?_
  refine R.gd (fun zg6 => ?_) (fun zg6 => ?_)
  ·
    refine R.ld Try.isAgg24 ?_
    refine R.gY (zg6) ?_
    refine R.cg Try.call24 (vCheck_spec ha) ?_
    refine R.gY (zg6) ?_
    refine R.cm ?_
    refine R.pF (zg6) ?_
    refine R.mv ?_
    refine R.gd (fun zg7 => ?_) (fun zg7 => ?_)
    ·
      refine R.ld Try.isAgg3 ?_
      refine R.gY (zg7) ?_
      refine R.cm ?_
      refine R.pF (zg7) ?_
      refine R.mv ?_
      refine R.gd (fun zg8 => ?_) (fun zg8 => ?_)
      ·
        refine R.ld Try.isAgg3 ?_
        refine R.gY (zg8) ?_
        refine R.cm ?_
        refine R.pF (zg8) ?_
        refine R.nl ?_
        refine R.hs (e' := [(4, _), (5, _), (6, _), (7, _), (8, _), (38, _)]) ?_
        refine R.cd (fun zc9 => ?_) (fun zc9 => ?_)
        ·
          have hok : okCase own xs now = false := by simp only [okCase, errA] at *; simp_all <;> (first | omega | grind)
          have hz : caseV own xs now lost = (z0H, 0, 1) := by simp [caseV, hok]
          refine R.sq ?_
          refine R.rg ?_
          refine R.bd Try.zeroValue23 places23 ?_
          refine R.st Try.sizeOf23 ?_
          refine R.as ?_
          refine R.as ?_
          refine R.nl ?_
          refine R.hs (e' := [(8, _), (9, _), (10, _)]) ?_
          first | exact R.rl (RV.a Try.isAgg23 Try.sizeOf23 (RV.t (RV.t .nil))) 5 hle (by first | (rw [hz]; done) | (rw [hz]; rfl)) | exact R.rl (RV.a Try.isAgg23 Try.sizeOf23 (RV.t (RV.t .nil))) 3 hle8 (by first | (rw [hz]; done) | (rw [hz]; rfl))
        ·
          have hok : okCase own xs now = true := by simp only [okCase, errA] at *; simp_all <;> (first | omega | grind)
          refine Run.skip ?_
          refine R.sq ?_
          refine R.rg ?_
          refine R.fa Try.runUnderlying23 Try.sizeOf3 ?_
          refine R.ld Try.isAgg3 ?_
          refine R.al1 Try.zeroValue3 (fun b11 hb11 => ?_)
          refine R.st Try.sizeOf3 ?_
          refine R.nl ?_
          refine R.hs (e' := [(4, _), (5, _), (6, _), (7, _), (8, _), (11, _)]) ?_
          refine R.sq ?_
          refine R.rg ?_
          refine R.ld Try.isAgg24 ?_
          refine R.gt Try.call21 (levels_spec hn ha) (fun zr4_1 D1 hD1 hzr4_1 => ?_)
          try replace hle := hle.mono hD1
          try replace ha := ha.mono hD1
          obtain ⟨A1, c1, hv1, _, _⟩ := (hzr4_1).form
          subst hv1
          refine R.al1 Try.zeroValue47 (fun b12 hb12 => ?_)
          refine R.st Try.sizeOf47 ?_
          refine R.nl ?_
          have hL := hzr4_1
          have hll := levelsV_len xs
          refine R.hs (e' := [(4, _), (5, _), (6, _), (7, _), (8, _), (11, _), (12, _)]) ?_
          refine R.sq ?_
          refine R.rg ?_
          refine R.bd Try.zeroValue42 places42 ?_
          refine R.alA Try.zeroValue42 (fun b13 hb13 => ?_)
          refine R.st Try.sizeOf42 ?_
          refine R.nl ?_
          refine R.hs (e' := [(4, _), (5, _), (6, _), (7, _), (8, _), (11, _), (12, _), (13, _)]) ?_
          refine R.sq ?_
          refine R.sq ?_
          refine R.rg ?_
          refine R.ld Try.isAgg47 ?_
          refine R.ll (hL) Try.runUnderlying47 ?_
          refine R.cm ?_
          refine R.nl ?_
          refine R.hs (e' := [(4, _), (5, _), (6, _), (7, _), (8, _), (11, _), (12, _), (13, _), (47, _)]) ?_
          refine R.cd (fun zc13 => ?_) (fun zc13 => ?_)
          ·
            have hlv : 0 < (levelsV xs).length := by simp only [decide_eq_true_eq] at zc13; omega
            obtain ⟨y, hgy⟩ := get_of_lt (xs := levelsV xs) (i := (levelsV xs).length - 1) (by omega)
            obtain ⟨b9, o9, hI9, hc9⟩ := hL.at Lv.len hgy
            have hty := topL_at hgy
            refine R.rg ?_
            refine R.ld Try.isAgg47 ?_
            refine R.ld Try.isAgg47 ?_
            refine R.ll (hL) Try.runUnderlying47 ?_
            refine R.sb ?_
            refine R.ix (hI9) Try.runUnderlying47 Try.sizeOf42 ?_
            refine R.lAD 3 Try.isAgg42 Try.sizeOf42 ?_
            refine R.st Try.sizeOf42 ?_
            refine R.nl ?_
            refine R.hs (e' := [(4, _), (5, _), (6, _), (7, _), (8, _), (11, _), (12, _), (13, _)]) ?_
            refine R.sq ?_
            refine R.rg ?_
            refine R.lA 3 Try.isAgg42 Try.sizeOf42 ?_
            refine R.alA Try.zeroValue42 (fun b14 hb14 => ?_)
            refine R.st Try.sizeOf42 ?_
            refine R.nl ?_
            refine R.hs (e' := [(4, _), (5, _), (6, _), (7, _), (8, _), (11, _), (12, _), (13, _), (14, _)]) ?_
            refine R.sq ?_
            refine R.rg ?_
            refine R.fa Try.runUnderlying42 Try.sizeOf3 ?_
            refine R.st Try.sizeOf3 ?_
            refine R.nl ?_
            refine R.hs (e' := [(4, _), (5, _), (6, _), (7, _), (8, _), (11, _), (12, _), (13, _), (14, _)]) ?_
            refine R.sq ?_
            refine R.rg ?_
            refine R.mf ?_
            refine R.as ?_
            refine R.nl ?_
            refine R.hs (e' := [(4, _), (5, _), (6, _), (7, _), (8, _), (11, _), (12, _), (13, _), (14, _), (15, _)]) ?_
            refine R.sq ?_
            refine R.rg ?_
            refine R.mf ?_
            refine R.as ?_
            refine R.nl ?_
            refine R.hs (e' := [(4, _), (5, _), (6, _), (7, _), (8, _), (11, _), (12, _), (13, _), (14, _), (15, _), (16, _)]) ?_
            refine R.sq ?_
            refine R.rg ?_
            refine R.mf ?_
            refine R.as ?_
            refine R.nl ?_
            refine R.hs (e' := [(4, _), (5, _), (7, _), (8, _), (11, _), (12, _), (13, _), (14, _), (15, _), (16, _), (17, _)]) ?_
            refine R.sq ?_
            refine R.rg ?_
            refine R.as ?_
            refine R.nl ?_
            refine R.hs (e' := [(4, _), (5, _), (7, _), (8, _), (11, _), (12, _), (13, _), (14, _), (15, _), (16, _), (17, _), (18, _)]) ?_
            refine R.sq ?_
            refine Run.label ?_
            refine R.sq ?_
            refine R.sq ?_
            refine R.rg ?_
            refine R.mf ?_
            refine R.mv ?_
            refine R.bd Try.zeroValue59 places59 ?_
            refine R.mf ?_
            refine R.mv ?_
            refine R.bd Try.zeroValue59 places59 ?_
            refine R.mf ?_
            refine R.mv ?_
            refine R.bd Try.zeroValue59 places59 ?_
            refine R.mf ?_
            refine R.mf ?_
            refine R.bd Try.zeroValue59 places59 ?_
            refine R.mf ?_
            refine R.mf ?_
            refine R.bd Try.zeroValue59 places59 ?_
            refine R.mf ?_
            refine R.mv ?_
            refine R.bd Try.zeroValue59 places59 ?_
            refine R.mv ?_
            refine R.mv ?_
            refine R.bd Try.zeroValue59 places59 ?_
            refine R.bs zc59 Try.runUnderlying61 Try.sizeOf59 Try.zeroValue59 (fun bR hbR => ?_)
            refine R.ln Try.runUnderlying61 ?_
            refine R.mv ?_
            refine R.nl ?_
            refine R.frz (fun E0 g0 hr => ?_)
            refine R.frz (fun E1 g1 h14 => ?_)
            refine R.frz (fun E2 g2 h13 => ?_)
            refine R.frz (fun E3 g3 h12 => ?_)
            refine R.frz (fun E4 g4 h11 => ?_)
            refine Run.st (fun w hs => hs.perm (List.perm_middle (l₁ := [_, _, _, _]))) ?_
            refine R.frz (fun E5 g5 h7 => ?_)
            refine R.frz (fun E6 g6 h6 => ?_)
            refine R.frz (fun E7 g7 h5 => ?_)
            refine R.frz (fun E8 g8 h4 => ?_)
            have G7 := g8
            have G6 := g7.mono G7
            have G5 := g6.mono G6
            have G4 := g5.mono G5
            have G3 := g4.mono G4
            have G2 := g3.mono G3
            have G1 := g2.mono G2
            have G0 := g1.mono G1
            have GD := g0.mono G0
            have k4 : CsD E8 b4 0 6 (Ht.cells own) := CsD.ofD h4 rfl
            have k5 : B1 E8 b5 _ := CsD.ofD (G7 _ _ h5) rfl
            have k6 : B1 E8 b6 (.int .i64 now) := CsD.ofD (G6 _ _ h6) rfl
            have k7 : B1 E8 b7 (.bool lost) := CsD.ofD (G5 _ _ h7) rfl
            have k11 : B1 E8 b11 (.int .i64 own.id) := CsD.ofD (G4 _ _ h11) rfl
            have k12 : B1 E8 b12 _ := CsD.ofD (G3 _ _ h12) rfl
            have k13 : CsD E8 b13 0 3 (Lv.cells (topL xs)) := by rw [hty]; exact CsD.ofD (G2 _ _ h13) rfl
            have k14 : CsD E8 b14 0 3 (Lv.cells ⟨(topL xs).tau, (topL xs).oid, 1⟩) := by rw [hty]; exact CsD.ofD (G1 _ _ h14) rfl
            have hL8 := hL.mono GD
            have ha8 := ha.mono GD
            have hle8 := hle.mono GD
            have hvs : okVs xs = true := by simp only [okCase, Bool.and_eq_true] at hok; exact hok.1.2
            obtain ⟨rs, hrs⟩ : ∃ rs : List Rl, rs = [⟨0, fnV 36 [ptr b4, ptr b5], fnV 32 [ptr b4]⟩, ⟨6, fnV 37 [ptr b12], fnV 33 [ptr b11]⟩, ⟨1, fnV 38 [ptr b7], fnV 34 [ptr b6, ptr b11]⟩, ⟨2, fnV 39 [ptr b12], fnV 40 [ptr b13, ptr b5, ptr b11]⟩, ⟨3, fnV 42 [ptr b13], fnV 43 [ptr b14, ptr b11]⟩, ⟨4, fnV 44 [ptr b13, ptr b11], fnV 33 [ptr b11]⟩, ⟨5, fnV 35 [], fnV 34 [ptr b6, ptr b11]⟩] := ⟨_, rfl⟩
            have hRs : Lst E8 3 Rl.cells (.slice (some ⟨bR, 0, none⟩) 7 7) rs := Lst.lit rs (G0 _ _ hr) (by rw [hrs]; rfl) (fun _ => rfl) (by rw [hrs]; rfl) (by decide) (by decide)
            have hF : ∀ i r, rs[i]? = some r → FnB Try.prog E8 r.is (ruleIs own xs lost i) ∧ FnH Try.prog E8 r.says (ruleSays own xs now i) ∧ r.no = ruleNo i := by
              intro i r h
              rw [hrs] at h
              match i with
              | 0 => simp at h; subst h; exact ⟨⟨_, _, rfl, Try.call36, fun g M => c5_spec hn k4 k5 ha8⟩, ⟨_, _, rfl, Try.call32, fun g M => c1_spec k4⟩, rfl⟩
              | 1 => simp at h; subst h; exact ⟨⟨_, _, rfl, Try.call37, fun g M => c6_spec k12 hL8⟩, ⟨_, _, rfl, Try.call33, fun g M => c2_spec k11⟩, rfl⟩
              | 2 => simp at h; subst h; exact ⟨⟨_, _, rfl, Try.call38, fun g M => c7_spec k7⟩, ⟨_, _, rfl, Try.call34, fun g M => c3_spec k6 k11⟩, rfl⟩
              | 3 => simp at h; subst h; exact ⟨⟨_, _, rfl, Try.call39, fun g M => c8_spec k12 hL8⟩, ⟨_, _, rfl, Try.call40, fun g M => c9_spec hvs k13 k5 k11 ha8⟩, rfl⟩
              | 4 => simp at h; subst h; exact ⟨⟨_, _, rfl, Try.call42, fun g M => c10_spec k13⟩, ⟨_, _, rfl, Try.call43, fun g M => c11_spec k14 k11⟩, rfl⟩
              | 5 => simp at h; subst h; exact ⟨⟨_, _, rfl, Try.call44, fun g M => c12_spec k13 k11⟩, ⟨_, _, rfl, Try.call33, fun g M => c2_spec k11⟩, rfl⟩
              | 6 => simp at h; subst h; exact ⟨⟨_, _, rfl, Try.call35, fun g M => c4_spec⟩, ⟨_, _, rfl, Try.call34, fun g M => c3_spec k6 k11⟩, rfl⟩
              | i + 7 => simp at h
            have hrl : rs.length = 7 := by rw [hrs]; rfl
            clear hrs
            refine R.hs (e' := [(4, _), (8, _), (80, _), (81, _), (82, _)]) ?_
            refine Run.block ?_
            refine Run.loop (ι := Nat) [(4, _), (8, _), (80, _), (81, _)] (fun i => [(82, .int .i64 (i : Int))]) (fun _ => E8) (fun _ => (b8, .cells (Ht.cells z0H).toArray 23 (0, 0)) :: M) (fun i => i ≤ 7 ∧ ∀ j, j < i → ruleIs own xs lost j = false) (fun i => 7 - i) (0) (by repeat (first | exact trivial | refine ⟨rfl, ?_⟩)) ?h0 (by repeat (first | exact trivial | refine ⟨rfl, ?_⟩)) (fun w hs => hs) ?_
            case h0 => exact ⟨Nat.zero_le _, upto0⟩
            rintro i ⟨hi, hpre⟩
            refine R.sq ?_
            refine R.rg ?_
            refine R.cm ?_
            refine R.nl ?_
            refine R.hs (e' := [(4, _), (8, _), (80, _), (81, _), (82, _), (83, _)]) ?_
            refine R.sq ?_
            refine R.cd (fun zc16 => ?_) (fun zc16 => ?_)
            ·
              have hlt : i < 7 := by simp at zc16; omega
              obtain ⟨⟨no, is, says⟩, hgr⟩ := get_of_lt (xs := rs) (i := i) (by omega)
              obtain ⟨bx, ox, hIx, hcx⟩ := hRs.at Rl.len hgr
              obtain ⟨⟨f1, cap1, e1, hc1, hs1⟩, ⟨f2, cap2, e2, hc2, hs2⟩, e3⟩ := hF i _ hgr
              simp only at e1 e2 e3
              subst e1; subst e2; subst e3
              generalize hp0 : ruleSays own xs now i = p at hs2
              refine Run.skip ?_
              refine R.sq ?_
              refine Run.block ?_
              refine R.sq ?_
              refine R.rg ?_
              refine R.ix (hIx) Try.runUnderlying61 Try.sizeOf59 ?_
              refine R.lAD 3 Try.isAgg59 Try.sizeOf59 ?_
              refine R.alA Try.zeroValue59 (fun b20 hb20 => ?_)
              refine R.st Try.sizeOf59 ?_
              refine R.nl ?_
              refine R.hs (e' := [(4, _), (8, _), (20, _), (80, _), (81, _), (82, _)]) ?_
              refine R.sq ?_
              refine R.sq ?_
              refine R.rg ?_
              refine R.fa Try.runUnderlying59 Try.sizeOf32 ?_
              refine R.ld Try.isAgg32 ?_
              refine R.cy (hc1) (hs1 _ _) ?_
              refine R.nt ?_
              refine R.nl ?_
              refine R.hs (e' := [(4, _), (8, _), (20, _), (80, _), (81, _), (82, _), (89, _)]) ?_
              refine R.cd (fun zc18 => ?_) (fun zc18 => ?_)
              ·
                have hf : ruleIs own xs lost i = false := by simpa using zc18
                refine Run.exit rfl ?_
                refine R.rg ?_
                refine R.ad ?_
                refine R.mv ?_
                refine R.nl ?_
                refine R.hs (e' := [(4, _), (8, _), (80, _), (81, _), (82, _)]) ?_
                exact Run.again (i + 1) ⟨by omega, upto hpre hf⟩ (by omega) (by refine ⟨rfl, ?_⟩; repeat (first | exact trivial | refine ⟨rfl, ?_⟩)) (fun w hs => hs.drop 1)
              ·
                have hf : ruleIs own xs lost i = true := by simpa using zc18
                have hz0 : caseV own xs now lost = caseAt p (ruleNo i) := by rw [case_rule hok hlt hpre hf, ruleAt, hp0]
                refine Run.skip ?_
                refine R.sq ?_
                refine R.rg ?_
                refine R.fa Try.runUnderlying59 Try.sizeOf57 ?_
                refine R.ld Try.isAgg57 ?_
                refine R.cy (hc2) (hs2 _ _) ?_
                refine R.mv ?_
                refine R.ex ?_
                refine R.ex ?_
                refine R.alA Try.zeroValue23 (fun b21 hb21 => ?_)
                refine R.st Try.sizeOf23 ?_
                refine R.as ?_
                refine R.nl ?_
                refine R.hs (e' := [(8, _), (20, _), (21, _), (22, _)]) ?_
                refine R.sq ?_
                refine R.sq ?_
                refine R.rg ?_
                refine R.mv ?_
                refine R.cm ?_
                refine R.nl ?_
                refine R.hs (e' := [(8, _), (20, _), (21, _), (22, _), (97, _)]) ?_
                refine R.cd (fun zc20 => ?_) (fun zc20 => ?_)
                ·
                  have hne : p.2 ≠ 0 := by simpa using zc20
                  have hz : caseV own xs now lost = (z0H, 0, p.2) := by rw [hz0]; simp [caseAt, hne]
                  refine R.sq ?_
                  refine R.rg ?_
                  refine R.bd Try.zeroValue23 places23 ?_
                  refine R.mv ?_
                  refine R.st Try.sizeOf23 ?_
                  refine R.as ?_
                  refine R.as ?_
                  refine R.nl ?_
                  refine R.hs (e' := [(8, _), (9, _), (10, _)]) ?_
                  first | exact R.rl (RV.a Try.isAgg23 Try.sizeOf23 (RV.t (RV.t .nil))) 5 hle (by first | (rw [hz]; done) | (rw [hz]; rfl)) | exact R.rl (RV.a Try.isAgg23 Try.sizeOf23 (RV.t (RV.t .nil))) 3 hle8 (by first | (rw [hz]; done) | (rw [hz]; rfl))
                ·
                  have hne : p.2 = 0 := by simpa using zc20
                  have hz : caseV own xs now lost = (p.1, ruleNo i, 0) := by rw [hz0]; simp [caseAt, hne]
                  refine Run.skip ?_
                  refine R.sq ?_
                  refine Run.drawX Grow.eq 4 3 (fun M' => M' = (b21, .cells (Ht.cells p.1).toArray 23 (0, 0)) :: (b20, .cells (Rl.cells ⟨ruleNo i, fnV f1 cap1, fnV f2 cap2⟩).toArray 59 (0, 0)) :: (b8, .cells (Ht.cells p.1).toArray 23 (0, 0)) :: M) [(8, _), (20, _), (21, _)] mix (by kernel_rfl) (by repeat (first | exact trivial | refine ⟨rfl, ?_⟩)) ?_
                  apply TX.val []
                  · exact rfl
                  · kernel_rfl
                  ·
                    rintro _ rfl 
                    refine R.lA 6 Try.isAgg23 Try.sizeOf23 ?_
                    refine R.nl ?_
                    exact Run.loc rfl rfl rfl
                  apply TX.late []
                  · exact rfl
                  · kernel_rfl
                  ·
                    intro zM hzM
                    rintro _ rfl 
                    refine R.fa Try.runUnderlying59 Try.sizeOf3 ?_
                    refine R.nl ?_
                    exact Run.loc rfl rfl rfl
                  apply TX.late [0]
                  · exact rfl
                  · kernel_rfl
                  ·
                    intro zM hzM
                    rintro _ rfl _ rfl
                    have hmb : (b20, Obj.cells (Rl.cells ⟨ruleNo i, fnV f1 cap1, fnV f2 cap2⟩).toArray 59 (0, 0)) ∈ zM := by rcases hzM with rfl | ⟨_, rfl⟩ <;> exact .tail _ (.head _)
                    refine R.ld Try.isAgg3 ?_ (hc := Cs.mkM (n := 1) hmb rfl)
                    refine R.nl ?_
                    exact Run.loc rfl rfl rfl
                  apply TX.eff [2]
                  · exact rfl
                  · kernel_rfl
                  ·
                    rintro _ rfl _ rfl
                    refine R.st Try.sizeOf23 ?_
                    refine R.nl ?_
                    exact Run.effd rfl (rfl)
                  refine TX.fin (by rfl) ?_
                  rintro zM rfl
                  rintro _ rfl  _ rfl _ rfl _ rfl
                  refine R.as ?_
                  refine R.as ?_
                  refine R.nl ?_
                  refine R.hs (e' := [(8, _), (9, _), (10, _)]) ?_
                  first | exact R.rl (RV.a Try.isAgg23 Try.sizeOf23 (RV.t (RV.t .nil))) 5 hle (by first | (rw [hz]; done) | (rw [hz]; rfl)) | exact R.rl (RV.a Try.isAgg23 Try.sizeOf23 (RV.t (RV.t .nil))) 3 hle8 (by first | (rw [hz]; done) | (rw [hz]; rfl))
            ·
              have h6 := hpre 6 (by simp at zc16; omega)
              cases h6
          ·
            have hlv : (levelsV xs).length = 0 := by simp only [decide_eq_false_iff_not] at zc13; omega
            have hty := topL_nil hlv
            refine Run.skip ?_
            refine R.sq ?_
            refine R.rg ?_
            refine R.lA 3 Try.isAgg42 Try.sizeOf42 ?_
            refine R.alA Try.zeroValue42 (fun b14 hb14 => ?_)
            refine R.st Try.sizeOf42 ?_
            refine R.nl ?_
            refine R.hs (e' := [(4, _), (5, _), (6, _), (7, _), (8, _), (11, _), (12, _), (13, _), (14, _)]) ?_
            refine R.sq ?_
            refine R.rg ?_
            refine R.fa Try.runUnderlying42 Try.sizeOf3 ?_
            refine R.st Try.sizeOf3 ?_
            refine R.nl ?_
            refine R.hs (e' := [(4, _), (5, _), (6, _), (7, _), (8, _), (11, _), (12, _), (13, _), (14, _)]) ?_
            refine R.sq ?_
            refine R.rg ?_
            refine R.mf ?_
            refine R.as ?_
            refine R.nl ?_
            refine R.hs (e' := [(4, _), (5, _), (6, _), (7, _), (8, _), (11, _), (12, _), (13, _), (14, _), (15, _)]) ?_
            refine R.sq ?_
            refine R.rg ?_
            refine R.mf ?_
            refine R.as ?_
            refine R.nl ?_
            refine R.hs (e' := [(4, _), (5, _), (6, _), (7, _), (8, _), (11, _), (12, _), (13, _), (14, _), (15, _), (16, _)]) ?_
            refine R.sq ?_
            refine R.rg ?_
            refine R.mf ?_
            refine R.as ?_
            refine R.nl ?_
            refine R.hs (e' := [(4, _), (5, _), (7, _), (8, _), (11, _), (12, _), (13, _), (14, _), (15, _), (16, _), (17, _)]) ?_
            refine R.sq ?_
            refine R.rg ?_
            refine R.as ?_
            refine R.nl ?_
            refine R.hs (e' := [(4, _), (5, _), (7, _), (8, _), (11, _), (12, _), (13, _), (14, _), (15, _), (16, _), (17, _), (18, _)]) ?_
            refine R.sq ?_
            refine Run.label ?_
            refine R.sq ?_
            refine R.sq ?_
            refine R.rg ?_
            refine R.mf ?_
            refine R.mv ?_
            refine R.bd Try.zeroValue59 places59 ?_
            refine R.mf ?_
            refine R.mv ?_
            refine R.bd Try.zeroValue59 places59 ?_
            refine R.mf ?_
            refine R.mv ?_
            refine R.bd Try.zeroValue59 places59 ?_
            refine R.mf ?_
            refine R.mf ?_
            refine R.bd Try.zeroValue59 places59 ?_
            refine R.mf ?_
            refine R.mf ?_
            refine R.bd Try.zeroValue59 places59 ?_
            refine R.mf ?_
            refine R.mv ?_
            refine R.bd Try.zeroValue59 places59 ?_
            refine R.mv ?_
            refine R.mv ?_
            refine R.bd Try.zeroValue59 places59 ?_
            refine R.bs zc59 Try.runUnderlying61 Try.sizeOf59 Try.zeroValue59 (fun bR hbR => ?_)
            refine R.ln Try.runUnderlying61 ?_
            refine R.mv ?_
            refine R.nl ?_
            refine R.frz (fun E0 g0 hr => ?_)
            refine R.frz (fun E1 g1 h14 => ?_)
            refine R.frz (fun E2 g2 h13 => ?_)
            refine R.frz (fun E3 g3 h12 => ?_)
            refine R.frz (fun E4 g4 h11 => ?_)
            refine Run.st (fun w hs => hs.perm (List.perm_middle (l₁ := [_, _, _, _]))) ?_
            refine R.frz (fun E5 g5 h7 => ?_)
            refine R.frz (fun E6 g6 h6 => ?_)
            refine R.frz (fun E7 g7 h5 => ?_)
            refine R.frz (fun E8 g8 h4 => ?_)
            have G7 := g8
            have G6 := g7.mono G7
            have G5 := g6.mono G6
            have G4 := g5.mono G5
            have G3 := g4.mono G4
            have G2 := g3.mono G3
            have G1 := g2.mono G2
            have G0 := g1.mono G1
            have GD := g0.mono G0
            have k4 : CsD E8 b4 0 6 (Ht.cells own) := CsD.ofD h4 rfl
            have k5 : B1 E8 b5 _ := CsD.ofD (G7 _ _ h5) rfl
            have k6 : B1 E8 b6 (.int .i64 now) := CsD.ofD (G6 _ _ h6) rfl
            have k7 : B1 E8 b7 (.bool lost) := CsD.ofD (G5 _ _ h7) rfl
            have k11 : B1 E8 b11 (.int .i64 own.id) := CsD.ofD (G4 _ _ h11) rfl
            have k12 : B1 E8 b12 _ := CsD.ofD (G3 _ _ h12) rfl
            have k13 : CsD E8 b13 0 3 (Lv.cells (topL xs)) := by rw [hty]; exact CsD.ofD (G2 _ _ h13) rfl
            have k14 : CsD E8 b14 0 3 (Lv.cells ⟨(topL xs).tau, (topL xs).oid, 1⟩) := by rw [hty]; exact CsD.ofD (G1 _ _ h14) rfl
            have hL8 := hL.mono GD
            have ha8 := ha.mono GD
            have hle8 := hle.mono GD
            have hvs : okVs xs = true := by simp only [okCase, Bool.and_eq_true] at hok; exact hok.1.2
            obtain ⟨rs, hrs⟩ : ∃ rs : List Rl, rs = [⟨0, fnV 36 [ptr b4, ptr b5], fnV 32 [ptr b4]⟩, ⟨6, fnV 37 [ptr b12], fnV 33 [ptr b11]⟩, ⟨1, fnV 38 [ptr b7], fnV 34 [ptr b6, ptr b11]⟩, ⟨2, fnV 39 [ptr b12], fnV 40 [ptr b13, ptr b5, ptr b11]⟩, ⟨3, fnV 42 [ptr b13], fnV 43 [ptr b14, ptr b11]⟩, ⟨4, fnV 44 [ptr b13, ptr b11], fnV 33 [ptr b11]⟩, ⟨5, fnV 35 [], fnV 34 [ptr b6, ptr b11]⟩] := ⟨_, rfl⟩
            have hRs : Lst E8 3 Rl.cells (.slice (some ⟨bR, 0, none⟩) 7 7) rs := Lst.lit rs (G0 _ _ hr) (by rw [hrs]; rfl) (fun _ => rfl) (by rw [hrs]; rfl) (by decide) (by decide)
            have hF : ∀ i r, rs[i]? = some r → FnB Try.prog E8 r.is (ruleIs own xs lost i) ∧ FnH Try.prog E8 r.says (ruleSays own xs now i) ∧ r.no = ruleNo i := by
              intro i r h
              rw [hrs] at h
              match i with
              | 0 => simp at h; subst h; exact ⟨⟨_, _, rfl, Try.call36, fun g M => c5_spec hn k4 k5 ha8⟩, ⟨_, _, rfl, Try.call32, fun g M => c1_spec k4⟩, rfl⟩
              | 1 => simp at h; subst h; exact ⟨⟨_, _, rfl, Try.call37, fun g M => c6_spec k12 hL8⟩, ⟨_, _, rfl, Try.call33, fun g M => c2_spec k11⟩, rfl⟩
              | 2 => simp at h; subst h; exact ⟨⟨_, _, rfl, Try.call38, fun g M => c7_spec k7⟩, ⟨_, _, rfl, Try.call34, fun g M => c3_spec k6 k11⟩, rfl⟩
              | 3 => simp at h; subst h; exact ⟨⟨_, _, rfl, Try.call39, fun g M => c8_spec k12 hL8⟩, ⟨_, _, rfl, Try.call40, fun g M => c9_spec hvs k13 k5 k11 ha8⟩, rfl⟩
              | 4 => simp at h; subst h; exact ⟨⟨_, _, rfl, Try.call42, fun g M => c10_spec k13⟩, ⟨_, _, rfl, Try.call43, fun g M => c11_spec k14 k11⟩, rfl⟩
              | 5 => simp at h; subst h; exact ⟨⟨_, _, rfl, Try.call44, fun g M => c12_spec k13 k11⟩, ⟨_, _, rfl, Try.call33, fun g M => c2_spec k11⟩, rfl⟩
              | 6 => simp at h; subst h; exact ⟨⟨_, _, rfl, Try.call35, fun g M => c4_spec⟩, ⟨_, _, rfl, Try.call34, fun g M => c3_spec k6 k11⟩, rfl⟩
              | i + 7 => simp at h
            have hrl : rs.length = 7 := by rw [hrs]; rfl
            clear hrs
            refine R.hs (e' := [(4, _), (8, _), (80, _), (81, _), (82, _)]) ?_
            refine Run.block ?_
            refine Run.loop (ι := Nat) [(4, _), (8, _), (80, _), (81, _)] (fun i => [(82, .int .i64 (i : Int))]) (fun _ => E8) (fun _ => (b8, .cells (Ht.cells z0H).toArray 23 (0, 0)) :: M) (fun i => i ≤ 7 ∧ ∀ j, j < i → ruleIs own xs lost j = false) (fun i => 7 - i) (0) (by repeat (first | exact trivial | refine ⟨rfl, ?_⟩)) ?h0 (by repeat (first | exact trivial | refine ⟨rfl, ?_⟩)) (fun w hs => hs) ?_
            case h0 => exact ⟨Nat.zero_le _, upto0⟩
            rintro i ⟨hi, hpre⟩
            refine R.sq ?_
            refine R.rg ?_
            refine R.cm ?_
            refine R.nl ?_
            refine R.hs (e' := [(4, _), (8, _), (80, _), (81, _), (82, _), (83, _)]) ?_
            refine R.sq ?_
            refine R.cd (fun zc28 => ?_) (fun zc28 => ?_)
            ·
              have hlt : i < 7 := by simp at zc28; omega
              obtain ⟨⟨no, is, says⟩, hgr⟩ := get_of_lt (xs := rs) (i := i) (by omega)
              obtain ⟨bx, ox, hIx, hcx⟩ := hRs.at Rl.len hgr
              obtain ⟨⟨f1, cap1, e1, hc1, hs1⟩, ⟨f2, cap2, e2, hc2, hs2⟩, e3⟩ := hF i _ hgr
              simp only at e1 e2 e3
              subst e1; subst e2; subst e3
              generalize hp0 : ruleSays own xs now i = p at hs2
              refine Run.skip ?_
              refine R.sq ?_
              refine Run.block ?_
              refine R.sq ?_
              refine R.rg ?_
              refine R.ix (hIx) Try.runUnderlying61 Try.sizeOf59 ?_
              refine R.lAD 3 Try.isAgg59 Try.sizeOf59 ?_
              refine R.alA Try.zeroValue59 (fun b20 hb20 => ?_)
              refine R.st Try.sizeOf59 ?_
              refine R.nl ?_
              refine R.hs (e' := [(4, _), (8, _), (20, _), (80, _), (81, _), (82, _)]) ?_
              refine R.sq ?_
              refine R.sq ?_
              refine R.rg ?_
              refine R.fa Try.runUnderlying59 Try.sizeOf32 ?_
              refine R.ld Try.isAgg32 ?_
              refine R.cy (hc1) (hs1 _ _) ?_
              refine R.nt ?_
              refine R.nl ?_
              refine R.hs (e' := [(4, _), (8, _), (20, _), (80, _), (81, _), (82, _), (89, _)]) ?_
              refine R.cd (fun zc30 => ?_) (fun zc30 => ?_)
              ·
                have hf : ruleIs own xs lost i = false := by simpa using zc30
                refine Run.exit rfl ?_
                refine R.rg ?_
                refine R.ad ?_
                refine R.mv ?_
                refine R.nl ?_
                refine R.hs (e' := [(4, _), (8, _), (80, _), (81, _), (82, _)]) ?_
                exact Run.again (i + 1) ⟨by omega, upto hpre hf⟩ (by omega) (by refine ⟨rfl, ?_⟩; repeat (first | exact trivial | refine ⟨rfl, ?_⟩)) (fun w hs => hs.drop 1)
              ·
                have hf : ruleIs own xs lost i = true := by simpa using zc30
                have hz0 : caseV own xs now lost = caseAt p (ruleNo i) := by rw [case_rule hok hlt hpre hf, ruleAt, hp0]
                refine Run.skip ?_
                refine R.sq ?_
                refine R.rg ?_
                refine R.fa Try.runUnderlying59 Try.sizeOf57 ?_
                refine R.ld Try.isAgg57 ?_
                refine R.cy (hc2) (hs2 _ _) ?_
                refine R.mv ?_
                refine R.ex ?_
                refine R.ex ?_
                refine R.alA Try.zeroValue23 (fun b21 hb21 => ?_)
                refine R.st Try.sizeOf23 ?_
                refine R.as ?_
                refine R.nl ?_
                refine R.hs (e' := [(8, _), (20, _), (21, _), (22, _)]) ?_
                refine R.sq ?_
                refine R.sq ?_
                refine R.rg ?_
                refine R.mv ?_
                refine R.cm ?_
                refine R.nl ?_
                refine R.hs (e' := [(8, _), (20, _), (21, _), (22, _), (97, _)]) ?_
                refine R.cd (fun zc32 => ?_) (fun zc32 => ?_)
                ·
                  have hne : p.2 ≠ 0 := by simpa using zc32
                  have hz : caseV own xs now lost = (z0H, 0, p.2) := by rw [hz0]; simp [caseAt, hne]
                  refine R.sq ?_
                  refine R.rg ?_
                  refine R.bd Try.zeroValue23 places23 ?_
                  refine R.mv ?_
                  refine R.st Try.sizeOf23 ?_
                  refine R.as ?_
                  refine R.as ?_
                  refine R.nl ?_
                  refine R.hs (e' := [(8, _), (9, _), (10, _)]) ?_
                  first | exact R.rl (RV.a Try.isAgg23 Try.sizeOf23 (RV.t (RV.t .nil))) 5 hle (by first | (rw [hz]; done) | (rw [hz]; rfl)) | exact R.rl (RV.a Try.isAgg23 Try.sizeOf23 (RV.t (RV.t .nil))) 3 hle8 (by first | (rw [hz]; done) | (rw [hz]; rfl))
                ·
                  have hne : p.2 = 0 := by simpa using zc32
                  have hz : caseV own xs now lost = (p.1, ruleNo i, 0) := by rw [hz0]; simp [caseAt, hne]
                  refine Run.skip ?_
                  refine R.sq ?_
                  refine Run.drawX Grow.eq 4 3 (fun M' => M' = (b21, .cells (Ht.cells p.1).toArray 23 (0, 0)) :: (b20, .cells (Rl.cells ⟨ruleNo i, fnV f1 cap1, fnV f2 cap2⟩).toArray 59 (0, 0)) :: (b8, .cells (Ht.cells p.1).toArray 23 (0, 0)) :: M) [(8, _), (20, _), (21, _)] mix (by kernel_rfl) (by repeat (first | exact trivial | refine ⟨rfl, ?_⟩)) ?_
                  apply TX.val []
                  · exact rfl
                  · kernel_rfl
                  ·
                    rintro _ rfl 
                    refine R.lA 6 Try.isAgg23 Try.sizeOf23 ?_
                    refine R.nl ?_
                    exact Run.loc rfl rfl rfl
                  apply TX.late []
                  · exact rfl
                  · kernel_rfl
                  ·
                    intro zM hzM
                    rintro _ rfl 
                    refine R.fa Try.runUnderlying59 Try.sizeOf3 ?_
                    refine R.nl ?_
                    exact Run.loc rfl rfl rfl
                  apply TX.late [0]
                  · exact rfl
                  · kernel_rfl
                  ·
                    intro zM hzM
                    rintro _ rfl _ rfl
                    have hmb : (b20, Obj.cells (Rl.cells ⟨ruleNo i, fnV f1 cap1, fnV f2 cap2⟩).toArray 59 (0, 0)) ∈ zM := by rcases hzM with rfl | ⟨_, rfl⟩ <;> exact .tail _ (.head _)
                    refine R.ld Try.isAgg3 ?_ (hc := Cs.mkM (n := 1) hmb rfl)
                    refine R.nl ?_
                    exact Run.loc rfl rfl rfl
                  apply TX.eff [2]
                  · exact rfl
                  · kernel_rfl
                  ·
                    rintro _ rfl _ rfl
                    refine R.st Try.sizeOf23 ?_
                    refine R.nl ?_
                    exact Run.effd rfl (rfl)
                  refine TX.fin (by rfl) ?_
                  rintro zM rfl
                  rintro _ rfl  _ rfl _ rfl _ rfl
                  refine R.as ?_
                  refine R.as ?_
                  refine R.nl ?_
                  refine R.hs (e' := [(8, _), (9, _), (10, _)]) ?_
                  first | exact R.rl (RV.a Try.isAgg23 Try.sizeOf23 (RV.t (RV.t .nil))) 5 hle (by first | (rw [hz]; done) | (rw [hz]; rfl)) | exact R.rl (RV.a Try.isAgg23 Try.sizeOf23 (RV.t (RV.t .nil))) 3 hle8 (by first | (rw [hz]; done) | (rw [hz]; rfl))
            ·
              have h6 := hpre 6 (by simp at zc28; omega)
              cases h6
      ·
        refine R.gF (zg8) ?_
        refine R.pT (zg8) ?_
        refine R.nl ?_
        refine R.hs (e' := [(4, _), (5, _), (6, _), (7, _), (8, _), (38, _)]) ?_
        refine R.cT (rfl) ?_
        have hok : okCase own xs now = false := by simp only [okCase, errA] at *; simp_all <;> (first | omega | grind)
        have hz : caseV own xs now lost = (z0H, 0, 1) := by simp [caseV, hok]
        refine R.sq ?_
        refine R.rg ?_
        refine R.bd Try.zeroValue23 places23 ?_
        refine R.st Try.sizeOf23 ?_
        refine R.as ?_
        refine R.as ?_
        refine R.nl ?_
        refine R.hs (e' := [(8, _), (9, _), (10, _)]) ?_
        first | exact R.rl (RV.a Try.isAgg23 Try.sizeOf23 (RV.t (RV.t .nil))) 5 hle (by first | (rw [hz]; done) | (rw [hz]; rfl)) | exact R.rl (RV.a Try.isAgg23 Try.sizeOf23 (RV.t (RV.t .nil))) 3 hle8 (by first | (rw [hz]; done) | (rw [hz]; rfl))
    ·
      refine R.gF (zg7) ?_
      refine R.pT (zg7) ?_
      refine R.mv ?_
      refine R.gF (rfl) ?_
      refine R.gF (rfl) ?_
      refine R.pT (rfl) ?_
      refine R.nl ?_
      refine R.hs (e' := [(4, _), (5, _), (6, _), (7, _), (8, _), (38, _)]) ?_
      refine R.cT (rfl) ?_
      have hok : okCase own xs now = false := by simp only [okCase, errA] at *; simp_all <;> (first | omega | grind)
      have hz : caseV own xs now lost = (z0H, 0, 1) := by simp [caseV, hok]
      refine R.sq ?_
      refine R.rg ?_
      refine R.bd Try.zeroValue23 places23 ?_
      refine R.st Try.sizeOf23 ?_
      refine R.as ?_
      refine R.as ?_
      refine R.nl ?_
      refine R.hs (e' := [(8, _), (9, _), (10, _)]) ?_
      first | exact R.rl (RV.a Try.isAgg23 Try.sizeOf23 (RV.t (RV.t .nil))) 5 hle (by first | (rw [hz]; done) | (rw [hz]; rfl)) | exact R.rl (RV.a Try.isAgg23 Try.sizeOf23 (RV.t (RV.t .nil))) 3 hle8 (by first | (rw [hz]; done) | (rw [hz]; rfl))
  ·
    refine R.gF (zg6) ?_
    refine R.gF (zg6) ?_
    refine R.pT (zg6) ?_
    refine R.mv ?_
    refine R.gF (rfl) ?_
    refine R.gF (rfl) ?_
    refine R.pT (rfl) ?_
    refine R.mv ?_
    refine R.gF (rfl) ?_
    refine R.gF (rfl) ?_
    refine R.pT (rfl) ?_
    refine R.nl ?_
    refine R.hs (e' := [(4, _), (5, _), (6, _), (7, _), (8, _), (38, _)]) ?_
    refine R.cT (rfl) ?_
    have hok : okCase own xs now = false := by simp only [okCase, errA] at *; simp_all <;> (first | omega | grind)
    have hz : caseV own xs now lost = (z0H, 0, 1) := by simp [caseV, hok]
    refine R.sq ?_
    refine R.rg ?_
    refine R.bd Try.zeroValue23 places23 ?_
    refine R.st Try.sizeOf23 ?_
    refine R.as ?_
    refine R.as ?_
    refine R.nl ?_
    refine R.hs (e' := [(8, _), (9, _), (10, _)]) ?_
    first | exact R.rl (RV.a Try.isAgg23 Try.sizeOf23 (RV.t (RV.t .nil))) 5 hle (by first | (rw [hz]; done) | (rw [hz]; rfl)) | exact R.rl (RV.a Try.isAgg23 Try.sizeOf23 (RV.t (RV.t .nil))) 3 hle8 (by first | (rw [hz]; done) | (rw [hz]; rfl))
end Go.Proofs.Ytgdpjpmjcpieiaa
