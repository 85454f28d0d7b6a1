/- Views: a copy of one's own; the least Delta at a level. No condition. -/
import Derived.Test.YtgdpjpmjcpieiaaV2
import Derived.Test.YtgdpjpmjcpieiaaOwn
namespace Go.Proofs.Ytgdpjpmjcpieiaa
open Go
set_option linter.unusedVariables false
set_option linter.unusedSimpArgs false
set_option maxRecDepth 100000
set_option maxHeartbeats 0
theorem Vw.ones (x : Vw) : ∀ u ∈ x.cells, u.oneCell' = true := Go.Proofs.Ytgdpjpmjcpieiaa.ones (xs := x.cells) rfl
/-- a row of one's own, never written again, reads as a list -/
theorem OL.freeze {α : Type} {sz : Nat} {cells : α → List Value} {T : TypeId} {v : Value} {xs : List α} {q : MList} {D : Dict} (h : OL sz cells T v xs q) :
    (v = .slice none 0 0 ∧ xs = [] ∧ q = []) ∨ ∃ b o, q = [(b, o)] ∧ Lst (ins D b o) sz cells v xs := by
  rcases h.2 with ⟨h1, h2, h3⟩ | ⟨b, cap, cur, h1, h2, h3, h4, h5, h6⟩
  · exact .inl ⟨h1, List.eq_nil_of_length_eq_zero h2, h3⟩
  · refine .inr ⟨b, _, h2, h.1, Nat.le_trans h3 h4, _, _, h1, h3, fun _ => ⟨b, 0, cur, T, (0, 0), rfl, ins_self, fun j u hu => ?_⟩⟩
    rw [← h6, List.getElem?_take] at hu
    split at hu
    · simpa using hu
    · cases hu
section
variable {P : Program} {n : Nat} {Q : Exit → Act → World → Prop} {g : Gl} {k : List It} {e : Env} {D : Dict} {M : MList}
theorem R.frO {α : Type} {sz : Nat} {cells : α → List Value} {T : TypeId} {v : Value} {xs : List α} {q : MList} (ho : OL sz cells T v xs q) (h : ∀ D', Le D D' → Lst D' sz cells v xs → Run P n Q g k e D' M) : Run P n Q g k e D (q ++ M) := by
  rcases ho.freeze (D := D) with ⟨h1, h2, h3⟩ | ⟨b, o, h1, h2⟩
  · subst h1; subst h2; subst h3; exact h D Le.rfl' (Lst.nil D sz cells)
  · subst h1; exact Run.freeze fun hle _ => h _ hle h2
end
theorem own_spec {g : Gl} {D : Dict} {M : MList} {a : Value} {xs : List Vw} (hn : xs.length ≤ 1000) (ha : Vws D a xs) : Gets Try.prog g 6 [a] D M (fun v D => Vws D v xs) := by
  refine Gets.enter Try.func6 rfl Try.ntmps6 ?_
  refine R.sq ?_
  refine R.rg ?_
  refine R.as ?_
  refine R.nl ?_
  refine R.hs (e' := [(0, _)]) ?_
  refine R.sq ?_
  refine R.rg ?_
  refine R.as ?_
  refine R.nl ?_
  refine R.hs (e' := [(0, _), (3, _)]) ?_
  refine R.sq ?_
  refine R.rg ?_
  refine R.mv ?_
  refine R.mv ?_
  refine R.ap Try.underlying24 info36 (OL.nil (α := Vw) (cells := Vw.cells)) (List.Perm.refl _) (ha.src _) (by simp; omega) (onesF Vw.ones) ?_
  intro v' q' hO
  have hO2 : OL 7 Vw.cells 36 v' xs q' := by simpa using OL.cat (xs := []) hO rfl rfl
  refine R.as ?_
  refine R.nl ?_
  refine R.hs (e' := [(3, _)]) ?_
  refine R.sq ?_
  refine R.rg ?_
  refine R.mv ?_
  refine R.as ?_
  refine R.nl ?_
  refine R.hs (e' := [(2, _)]) ?_
  refine R.frO hO2 (fun D' hle hL => ?_)
  exact R.rk (RV.t .nil) 0 ⟨hle, rfl, hL⟩
theorem okVs_at {xs : List Vw} {i : Nat} {x : Vw} (h : okVs xs = true) (hx : xs[i]? = some x) : okV x = true := by
  have hi : i < xs.length := by
    rcases Nat.lt_or_ge i xs.length with h1 | h1
    · exact h1
    · rw [List.getElem?_eq_none h1] at hx; cases hx
  obtain ⟨u, hu⟩ := get_of_lt (xs := xs) (i := i - 1) (by omega)
  have := okVs_iff.1 h i hi
  rw [rAt_eq hx hu] at this
  simp at this
  exact this.1
theorem okVs_told {xs : List Vw} {i : Nat} {x : Vw} (h : okVs xs = true) (hx : xs[i]? = some x) : toldH x.h = !x.h.null := by
  have := okVs_at h hx
  simp [okV] at this
  simp [toldH, this]
def minI (a b : Int) : Int := if b < a then b else a
theorem minI_eq (a b : Int) : (if b < a then b else a) = minI a b := rfl
attribute [irreducible] minI
theorem least_spec {g : Gl} {D : Dict} {M : MList} {a : Value} {xs : List Vw} (l : Lv) (hok : okVs xs = true) (ha : Vws D a xs) : Gives Try.prog g 41 [a, .agg (Lv.cells l).toArray] D M (.int .i64 (leastV xs l)) := by
  have hla := ha.form.choose_spec.choose_spec.2.2
  refine Gives.enter Try.func41 rfl Try.ntmps41 ?_
  refine R.sq ?_
  refine R.rg ?_
  refine R.bxA (fun zb1 hzb1 => ?_)
  refine R.as ?_
  refine R.nl ?_
  refine R.hs (e' := [(0, _), (3, _)]) ?_
  refine R.sq ?_
  refine R.rg ?_
  refine R.as ?_
  refine R.nl ?_
  refine R.hs (e' := [(0, _), (3, _), (5, _)]) ?_
  refine R.sq ?_
  refine R.sq ?_
  refine R.rg ?_
  refine R.mv ?_
  refine R.ll (ha) Try.runUnderlying24 ?_
  refine R.mv ?_
  refine R.nl ?_
  refine R.hs (e' := [(3, _), (5, _), (8, _), (9, _), (10, _)]) ?_
  refine Run.block ?_
  refine Run.loop (ι := Nat × Int) [(3, _), (8, _), (9, _)] (fun p => [(10, .int .i64 (p.1 : Int)), (5, .int .i64 p.2)]) (fun _ => D) (fun _ => (zb1, .cells (Lv.cells l).toArray 42 (0, 0)) :: M) (fun p => p.1 ≤ xs.length ∧ p.2 = (xs.take p.1).foldl (leastStep l) 1099511627776) (fun p => xs.length - p.1) ((0, 1099511627776)) (by repeat (first | exact trivial | refine ⟨rfl, ?_⟩)) ?h0 (by repeat (first | exact trivial | refine ⟨rfl, ?_⟩)) (fun w hs => hs) ?_
  case h0 => exact ⟨Nat.zero_le _, rfl⟩
  rintro ⟨i, o⟩ ⟨hi, hpre⟩
  refine R.sq ?_
  refine R.rg ?_
  refine R.cm ?_
  refine R.nl ?_
  refine R.hs (e' := [(3, _), (5, _), (8, _), (9, _), (10, _), (11, _)]) ?_
  refine R.sq ?_
  refine R.cd (fun zc2 => ?_) (fun zc2 => ?_)
  ·
    have hlt : i < xs.length := by simp at zc2; omega
    obtain ⟨x, hgx⟩ := get_of_lt hlt
    obtain ⟨b1, o1, hI1, hc1⟩ := ha.at Vw.len hgx
    have hton : toldH x.h = !x.h.null := okVs_told hok hgx
    refine Run.skip ?_
    refine R.sq ?_
    refine Run.block ?_
    refine R.sq ?_
    refine R.rg ?_
    refine R.ix (hI1) Try.runUnderlying24 Try.sizeOf36 ?_
    refine R.lAD 7 Try.isAgg36 Try.sizeOf36 ?_
    refine R.alA Try.zeroValue36 (fun zb3 hzb3 => ?_)
    refine R.st Try.sizeOf36 ?_
    refine R.nl ?_
    refine R.hs (e' := [(3, _), (5, _), (7, _), (8, _), (9, _), (10, _)]) ?_
    refine R.sq ?_
    rcases Bool.eq_false_or_eq_true (!x.h.null) with zg4 | zg4
    ·
      refine Run.drawC Grow.eq 9 [(3, _), (5, _), (7, _), (8, _), (9, _), (10, _)] mix (by kernel_rfl) (by repeat (first | exact trivial | refine ⟨rfl, ?_⟩)) ?_
      apply TC.val []
      · exact rfl
      · kernel_rfl
      ·
        rintro _ rfl 
        refine R.fa Try.runUnderlying36 Try.sizeOf23 ?_
        refine R.nl ?_
        exact Run.loc rfl rfl rfl
      apply TC.val [0]
      · exact rfl
      · kernel_rfl
      ·
        rintro _ rfl _ rfl
        refine R.fa Try.runUnderlying23 Try.sizeOf4 ?_
        refine R.nl ?_
        exact Run.loc rfl rfl rfl
      apply TC.val [0]
      · exact rfl
      · kernel_rfl
      ·
        rintro _ rfl _ rfl
        refine R.ld Try.isAgg4 ?_
        refine R.nl ?_
        exact Run.loc rfl rfl rfl
      apply TC.val [0]
      · exact rfl
      · kernel_rfl
      ·
        rintro _ rfl _ rfl
        refine R.nt ?_
        refine R.nl ?_
        exact Run.loc rfl rfl rfl
      apply TC.val [0]
      · exact rfl
      · kernel_rfl
      ·
        rintro _ rfl _ rfl
        refine R.mv ?_
        refine R.nl ?_
        exact Run.loc rfl rfl rfl
      apply TC.val [0]
      · exact rfl
      · kernel_rfl
      ·
        rintro _ rfl _ rfl
        refine R.gY (zg4) ?_
        refine R.fa Try.runUnderlying36 Try.sizeOf23 ?_
        refine R.nl ?_
        exact Run.loc rfl rfl rfl
      apply TC.val [1, 0]
      · exact rfl
      · kernel_rfl
      ·
        rintro _ rfl _ rfl _ rfl
        refine R.gY (zg4) ?_
        refine R.lA 6 Try.isAgg23 Try.sizeOf23 ?_
        refine R.nl ?_
        exact Run.loc rfl rfl rfl
      apply TC.val [2, 0]
      · exact rfl
      · kernel_rfl
      ·
        rintro _ rfl _ rfl _ rfl
        refine R.gY (zg4) ?_
        refine R.cg Try.call18 (lvl_spec x.h) ?_
        refine R.nl ?_
        exact Run.loc rfl rfl rfl
      apply TC.val [3]
      · exact rfl
      · kernel_rfl
      ·
        rintro _ rfl _ rfl
        refine R.gY (zg4) ?_
        refine R.lA 3 Try.isAgg42 Try.sizeOf42 ?_
        refine R.nl ?_
        exact Run.loc rfl rfl rfl
      refine TC.fin (by rfl) ?_
      rintro _ rfl _ rfl _ rfl _ rfl _ rfl _ rfl _ rfl _ rfl _ rfl _ rfl
      refine R.gY (zg4) ?_
      refine R.ea Try.eqGuardType42 (eqAt42 _ _ _ _ _ _) ?_
      refine R.pT (zg4) ?_
      refine R.nl ?_
      refine R.hs (e' := [(3, _), (5, _), (7, _), (8, _), (9, _), (10, _), (24, _)]) ?_
      refine R.cd (fun zc15 => ?_) (fun zc15 => ?_)
      ·
        refine R.rg ?_
        refine R.mv ?_
        refine R.fa Try.runUnderlying36 Try.sizeOf23 ?_
        refine R.fa Try.runUnderlying23 Try.sizeOf3 ?_
        refine R.ld Try.isAgg3 ?_
        refine R.mn (minI_eq o x.h.delta) ?_
        refine R.as ?_
        refine R.nl ?_
        refine R.hs (e' := [(3, _), (5, _), (8, _), (9, _), (10, _)]) ?_
        refine Run.endBlock ?_
        refine R.rg ?_
        refine R.ad ?_
        refine R.mv ?_
        refine R.nl ?_
        refine R.hs (e' := [(3, _), (5, _), (8, _), (9, _), (10, _)]) ?_
        refine Run.again (i + 1, _) ⟨by simp; omega, fold_step hgx hpre ?hf⟩ (by simp; omega) (by repeat (first | exact trivial | refine ⟨rfl, ?_⟩)) (fun w hs => hs.drop 1)
        case hf => clear hpre; simp only [leastStep, hton, ← minI_eq]; simp_all [Lv.ext'] <;> (try (intros; omega)) <;> (try grind)
      ·
        refine Run.skip ?_
        refine Run.endBlock ?_
        refine R.rg ?_
        refine R.ad ?_
        refine R.mv ?_
        refine R.nl ?_
        refine R.hs (e' := [(3, _), (5, _), (8, _), (9, _), (10, _)]) ?_
        refine Run.again (i + 1, _) ⟨by simp; omega, fold_step hgx hpre ?hf⟩ (by simp; omega) (by repeat (first | exact trivial | refine ⟨rfl, ?_⟩)) (fun w hs => hs.drop 1)
        case hf => clear hpre; simp only [leastStep, hton, ← minI_eq]; simp_all [Lv.ext'] <;> (try (intros; omega)) <;> (try grind)
    ·
      refine Run.drawC Grow.eq 9 [(3, _), (5, _), (7, _), (8, _), (9, _), (10, _)] mix (by kernel_rfl) (by repeat (first | exact trivial | refine ⟨rfl, ?_⟩)) ?_
      apply TC.val []
      · exact rfl
      · kernel_rfl
      ·
        rintro _ rfl 
        refine R.fa Try.runUnderlying36 Try.sizeOf23 ?_
        refine R.nl ?_
        exact Run.loc rfl rfl rfl
      apply TC.val [0]
      · exact rfl
      · kernel_rfl
      ·
        rintro _ rfl _ rfl
        refine R.fa Try.runUnderlying23 Try.sizeOf4 ?_
        refine R.nl ?_
        exact Run.loc rfl rfl rfl
      apply TC.val [0]
      · exact rfl
      · kernel_rfl
      ·
        rintro _ rfl _ rfl
        refine R.ld Try.isAgg4 ?_
        refine R.nl ?_
        exact Run.loc rfl rfl rfl
      apply TC.val [0]
      · exact rfl
      · kernel_rfl
      ·
        rintro _ rfl _ rfl
        refine R.nt ?_
        refine R.nl ?_
        exact Run.loc rfl rfl rfl
      apply TC.val [0]
      · exact rfl
      · kernel_rfl
      ·
        rintro _ rfl _ rfl
        refine R.mv ?_
        refine R.nl ?_
        exact Run.loc rfl rfl rfl
      apply TC.val [0]
      · exact rfl
      · kernel_rfl
      ·
        rintro _ rfl _ rfl
        refine R.gF (zg4) ?_
        refine R.nl ?_
        exact Run.loc rfl rfl rfl
      apply TC.val [1, 0]
      · exact rfl
      · kernel_rfl
      ·
        rintro _ rfl _ rfl _ rfl
        refine R.gF (zg4) ?_
        refine R.nl ?_
        exact Run.loc rfl rfl rfl
      apply TC.val [2, 0]
      · exact rfl
      · kernel_rfl
      ·
        rintro _ rfl _ rfl _ rfl
        refine R.gF (zg4) ?_
        refine R.nl ?_
        exact Run.loc rfl rfl rfl
      apply TC.val [3]
      · exact rfl
      · kernel_rfl
      ·
        rintro _ rfl _ rfl
        refine R.gF (zg4) ?_
        refine R.nl ?_
        exact Run.loc rfl rfl rfl
      refine TC.fin (by rfl) ?_
      rintro _ rfl _ rfl _ rfl _ rfl _ rfl _ rfl _ rfl _ rfl _ rfl _ rfl
      refine R.gF (zg4) ?_
      refine R.pF (zg4) ?_
      refine R.nl ?_
      refine R.hs (e' := [(3, _), (5, _), (7, _), (8, _), (9, _), (10, _), (24, _)]) ?_
      refine R.cF (rfl) ?_
      refine Run.skip ?_
      refine Run.endBlock ?_
      refine R.rg ?_
      refine R.ad ?_
      refine R.mv ?_
      refine R.nl ?_
      refine R.hs (e' := [(3, _), (5, _), (8, _), (9, _), (10, _)]) ?_
      refine Run.again (i + 1, _) ⟨by simp; omega, fold_step hgx hpre ?hf⟩ (by simp; omega) (by repeat (first | exact trivial | refine ⟨rfl, ?_⟩)) (fun w hs => hs.drop 1)
      case hf => clear hpre; simp only [leastStep, hton, ← minI_eq]; simp_all [Lv.ext'] <;> (try (intros; omega)) <;> (try grind)
  ·
    have hz : leastV xs l = o := by simp at zc2 hpre hi; rw [hpre, List.take_of_length_le (by omega)]; rfl
    refine Run.exit rfl ?_
    refine R.sq ?_
    refine R.rg ?_
    refine R.mv ?_
    refine R.as ?_
    refine R.nl ?_
    refine R.hs (e' := [(4, _)]) ?_
    refine R.rt (RV.t .nil) 1 ?_
    rw [hz]
end Go.Proofs.Ytgdpjpmjcpieiaa
