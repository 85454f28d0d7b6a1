import Derived.Test.YtgdpjpmjcpieiaaGreatQ10
/- The calls of a route: how a call is run. No condition. -/
namespace Go.Proofs.YtgdpjpmjcpieiaaGreat
open Go
set_option linter.unusedVariables false
set_option linter.unusedSimpArgs false
set_option maxRecDepth 100000
set_option maxHeartbeats 0
def z0R : Rt := ⟨0, 0, z0H, [], false, false, false, 0⟩
def runV (r : Rt) (now chk : Int) (t : Tn) : Rt × List Ou × Int :=
  if (!okR r || !timeB now) = true then (z0R, [], 1) else if chk ≠ 0 then (z0R, [], chk) else if t.e ≠ 0 then (z0R, [], t.e) else (t.r, t.out, 0)
abbrev Outs (D : Dict) (v : Value) (xs : List Ou) : Prop := Lst D 13 Ou.cells v xs
/-- what a call answers -/
def Ans (D : Dict) (u : Value) (a : Rt × List Ou × Int) : Prop := ∃ v o, u = .tuple #[.agg (Rt.cells v a.1).toArray, o, .int .i64 a.2.2] ∧ Vws D v a.1.vs ∧ Outs D o a.2.1
theorem Ans.mono {D D' : Dict} {u : Value} {a : Rt × List Ou × Int} (h : Ans D u a) (hD : Le D D') : Ans D' u a := by
  obtain ⟨v, o, h1, h2, h3⟩ := h
  exact ⟨v, o, h1, h2.mono hD, h3.mono hD⟩
theorem z0_ans (D : Dict) (e : Int) : Ans D (.tuple #[.agg (Rt.cells (.slice none 0 0) z0R).toArray, .slice none 0 0, .int .i64 e]) (z0R, [], e) := ⟨_, _, rfl, Lst.nil _ _ _, Lst.nil _ _ _⟩
theorem run_spec {g : Gl} {D : Dict} {M X : MList} {v : Value} (r : Rt) (now chk : Int) (fC fD : FuncId) (capC capD : List Value) (t' : Tn) (hn : r.vs.length ≤ 990) (hV : Vws D v r.vs) (hX : ∀ p ∈ X, p ∈ M)
    (hC : okR r = true → timeB now = true → CS fC capC X D chk) (hD : okR r = true → timeB now = true → chk = 0 → DS fD capD X D ⟨r, now, [], 0⟩ t')
    (hcC : ∀ args w, (callFunc fC args).run Tryz.prog w = .ok (.enter fC args) w) (hcD : ∀ args w, (callFunc fD args).run Tryz.prog w = .ok (.enter fD args) w) :
    Gets Tryz.prog g 51 [.agg (Rt.cells v r).toArray, .int .i64 now, .func (.func fC) #[] capC.toArray, .func (.func fD) #[] capD.toArray] D M (fun u D' => Ans D' u (runV r now chk t')) := by
  obtain ⟨A0, c0, hv0, _, _⟩ := hV.form
  subst hv0
  refine Gets.enter Tryz.func51 rfl Tryz.ntmps51 ?_; refine R.sq ?_; refine R.rg ?_; refine R.bxA (fun b4 hb4 => ?_); refine R.alA Tryz.zeroValue26 (fun b8 hb8 => ?_); refine R.as ?_; refine R.as ?_; refine R.nl ?_; refine R.hs (e' := [(1, _), (2, _), (3, _), (4, _), (8, _)]) ?_; refine R.sq ?_; refine R.sq ?_; refine R.rg ?_; refine R.lA 13 Tryz.isAgg26 Tryz.sizeOf26 ?_; refine R.cg Tryz.call18 (rCheck_spec r hV) ?_; refine R.cm ?_; refine R.mv ?_; refine R.gd (fun zg3 => ?_) (fun zg3 => ?_)
  ·refine R.mv ?_; refine R.gY (zg3) ?_; refine R.cg Tryz.call93 (time_spec now) ?_; refine R.gY (zg3) ?_; refine R.nt ?_; refine R.pF (zg3) ?_; refine R.nl ?_; refine R.hs (e' := [(1, _), (2, _), (3, _), (4, _), (8, _), (20, _)]) ?_; refine R.cd (fun zc4 => ?_) (fun zc4 => ?_)
   ·
    have hs : runV r now chk t' = (z0R, [], 1) := by
      rw [runV, if_pos]; simp only [errA] at *; grind
    refine R.sq ?_; refine R.rg ?_; refine R.bd Tryz.zeroValue26 places26 ?_; refine R.st Tryz.sizeOf26 ?_; refine R.as ?_; refine R.as ?_; refine R.nl ?_; refine R.hs (e' := [(8, _), (9, _), (10, _)]) ?_
    rw [hs]
    first
    | exact R.rk (RV.a Tryz.isAgg26 Tryz.sizeOf26 (RV.t (RV.t .nil))) 2 ⟨Le.rfl', rfl, z0_ans _ _⟩
    | exact R.rk (RV.a Tryz.isAgg26 Tryz.sizeOf26 (RV.t (RV.t .nil))) 3 ⟨(hl1.trans hl2).trans hl3, rfl, z0_ans _ _⟩
    | exact R.rk (RV.a Tryz.isAgg26 Tryz.sizeOf26 (RV.t (RV.t .nil))) 3 ⟨(hl1.trans hl2).trans hl3, rfl, _, _, rfl, hV3, hL3⟩
   ·
    have hok : okR r = true ∧ timeB now = true := by simp only [errA] at *; grind
    obtain ⟨hok, htm⟩ := hok
    have hb : ¬ (!okR r || !timeB now) = true := by simp [hok, htm]
    refine Run.skip ?_; refine R.sq ?_; refine R.sq ?_; refine R.rg ?_; refine R.mv ?_; refine R.cy (hcC) (hC hok htm g D _ Le.rfl' (fun p hp => .tail _ (.tail _ (hX p hp)))) ?_; refine R.as ?_; refine R.nl ?_; refine R.hs (e' := [(1, _), (3, _), (4, _), (8, _), (11, _)]) ?_; refine R.sq ?_; refine R.rg ?_; refine R.mv ?_; refine R.cm ?_; refine R.nl ?_; refine R.hs (e' := [(1, _), (3, _), (4, _), (8, _), (11, _), (25, _)]) ?_; refine R.cd (fun zc5 => ?_) (fun zc5 => ?_)
    ·
     have hc : chk ≠ 0 := by simpa using zc5
     have hs : runV r now chk t' = (z0R, [], chk) := by rw [runV, if_neg hb, if_pos hc]
     refine R.sq ?_; refine R.rg ?_; refine R.bd Tryz.zeroValue26 places26 ?_; refine R.mv ?_; refine R.st Tryz.sizeOf26 ?_; refine R.as ?_; refine R.as ?_; refine R.nl ?_; refine R.hs (e' := [(8, _), (9, _), (10, _)]) ?_
     rw [hs]
     first
     | exact R.rk (RV.a Tryz.isAgg26 Tryz.sizeOf26 (RV.t (RV.t .nil))) 2 ⟨Le.rfl', rfl, z0_ans _ _⟩
     | exact R.rk (RV.a Tryz.isAgg26 Tryz.sizeOf26 (RV.t (RV.t .nil))) 3 ⟨(hl1.trans hl2).trans hl3, rfl, z0_ans _ _⟩
     | exact R.rk (RV.a Tryz.isAgg26 Tryz.sizeOf26 (RV.t (RV.t .nil))) 3 ⟨(hl1.trans hl2).trans hl3, rfl, _, _, rfl, hV3, hL3⟩
    ·
     have hc : chk = 0 := by simpa using zc5
     refine Run.skip ?_; refine R.sq ?_; refine R.rg ?_; refine R.fa Tryz.runUnderlying26 Tryz.sizeOf24 ?_; refine R.ld Tryz.isAgg24 ?_; refine R.ca Tryz.call94 (clone_spec (by omega) hV) ?_; rintro _ _ _ ⟨h0, q0, hO, rfl⟩
     subst h0
     refine R.frO hO (fun D1 hl1 hL1 => ?_)
     obtain ⟨A1, c1, hv1, _, _⟩ := hL1.form
     subst hv1
     refine R.fa Tryz.runUnderlying26 Tryz.sizeOf24 ?_; refine R.st Tryz.sizeOf24 ?_; refine R.nl ?_; refine R.hs (e' := [(1, _), (3, _), (4, _), (8, _)]) ?_; refine R.sq ?_; refine R.rg ?_; refine R.lA 13 Tryz.isAgg26 Tryz.sizeOf26 ?_; refine R.mv ?_; refine R.bd Tryz.zeroValue78 places78 ?_; refine R.bxA (fun b12 hb12 => ?_); refine R.as ?_; refine R.nl ?_; refine R.hs (e' := [(3, _), (8, _), (12, _)]) ?_; refine R.sq ?_; refine R.rg ?_; refine R.mv ?_; refine R.mv ?_; refine Run.callV (fs := []) (cap := capD) (vs := [pt b12]) hcD rfl rfl rfl (hD hok htm hc g D1 b12 _ _ [] ((b8, _) :: (b4, _) :: M) hl1 (fun p hp => .tail _ (.tail _ (hX p hp))) hL1 OL.nil) ?_; rintro _ D2 _ ⟨rfl, hl2, sv2, so2, q2, hV2, hO2, rfl⟩; refine Run.st (fun w hs => hs.perm (permQ (q := q2) (a := [_])).symm) ?_; refine R.frO hO2 (fun D3 hl3 hL3 => ?_)
     have hV3 := hV2.mono hl3
     obtain ⟨A2, c2, hv2, _, _⟩ := hV3.form
     subst hv2
     obtain ⟨A3, c3, hv3, _, _⟩ := hL3.form
     subst hv3
     refine R.nl ?_; refine R.hs (e' := [(8, _), (12, _)]) ?_; refine R.sq ?_; refine R.sq ?_; refine R.rg ?_; refine R.mv ?_
     first | refine R.nc ?_ | refine R.ncf ?_
     refine R.fa Tryz.runUnderlying78 Tryz.sizeOf35 ?_; refine R.ld Tryz.isAgg35 ?_; refine R.cm ?_; refine R.nl ?_; refine R.hs (e' := [(8, _), (12, _), (43, _)]) ?_; refine R.cd (fun zc7 => ?_) (fun zc7 => ?_)
     ·
      have he : t'.e ≠ 0 := by simpa using zc7
      have hs : runV r now chk t' = (z0R, [], t'.e) := by rw [runV, if_neg hb, if_neg (by omega), if_pos he]
      refine R.sq ?_; refine Run.drawX Grow.eq 7 5 (fun M' => M' = tb b12 (.slice A2 t'.r.vs.length c2) (.slice A3 t'.out.length c3) t' :: (b8, .cells (Rt.cells (.slice none 0 0) z0R).toArray 26 (0, 0)) :: rb b4 (.slice A1 r.vs.length c1) r :: M) [(8, _), (12, _)] mix (by kernel_rfl) (by repeat (first | exact trivial | refine ⟨rfl, ?_⟩)) ?_; apply TX.val []; exact rfl; kernel_rfl
      ·rintro _  rfl ; refine R.bd Tryz.zeroValue26 places26 ?_; refine R.nl ?_; exact Run.loc rfl rfl rfl
      apply TX.late []; exact rfl; kernel_rfl
      ·intro zM hzM; rintro _  rfl ; refine R.mv ?_; refine R.nl ?_; exact Run.loc rfl rfl rfl
      apply TX.late [0]; exact rfl; kernel_rfl
      ·intro zM hzM; rintro _  rfl _ rfl
       first | refine R.nc ?_ | refine R.ncf ?_
       refine R.nl ?_; exact Run.loc rfl rfl rfl
      apply TX.late [0]; exact rfl; kernel_rfl
      ·intro zM hzM; rintro _  rfl _ rfl; refine R.fa Tryz.runUnderlying78 Tryz.sizeOf35 ?_; refine R.nl ?_; exact Run.loc rfl rfl rfl
      apply TX.late [0]; exact rfl; kernel_rfl
      ·intro zM hzM; rintro _  rfl _ rfl; refine R.ld Tryz.isAgg35 ?_ (hc := Cs.mkM (n := 1) (show tb b12 (.slice A2 t'.r.vs.length c2) (.slice A3 t'.out.length c3) t' ∈ zM from by rcases hzM with h | h <;> (rw [h]; exact .head _)) rfl); refine R.nl ?_; exact Run.loc rfl rfl rfl
      apply TX.eff [4]; exact rfl; kernel_rfl
      ·rintro _  rfl _ rfl; refine R.st Tryz.sizeOf26 ?_; refine R.nl ?_; exact Run.effd rfl (rfl)
      apply TX.late []; exact rfl; kernel_rfl
      ·intro zM hzM; rintro _  rfl ; refine R.as ?_; refine R.nl ?_; exact Run.loc rfl rfl rfl
      refine TX.fin (by rfl) ?_; rintro zM rfl; rintro _  rfl _ rfl  _ rfl _ rfl _ rfl _ rfl _ rfl; refine R.as ?_; refine R.nl ?_; refine R.hs (e' := [(8, _), (9, _), (10, _)]) ?_
      rw [hs]
      first
      | exact R.rk (RV.a Tryz.isAgg26 Tryz.sizeOf26 (RV.t (RV.t .nil))) 2 ⟨Le.rfl', rfl, z0_ans _ _⟩
      | exact R.rk (RV.a Tryz.isAgg26 Tryz.sizeOf26 (RV.t (RV.t .nil))) 3 ⟨(hl1.trans hl2).trans hl3, rfl, z0_ans _ _⟩
      | exact R.rk (RV.a Tryz.isAgg26 Tryz.sizeOf26 (RV.t (RV.t .nil))) 3 ⟨(hl1.trans hl2).trans hl3, rfl, _, _, rfl, hV3, hL3⟩
     ·
      have he : ¬ t'.e ≠ 0 := by simpa using zc7
      have hs : runV r now chk t' = (t'.r, t'.out, 0) := by rw [runV, if_neg hb, if_neg (by omega), if_neg he]
      refine Run.skip ?_; refine R.sq ?_; refine Run.drawX Grow.eq 9 8 (fun M' => M' = tb b12 (.slice A2 t'.r.vs.length c2) (.slice A3 t'.out.length c3) t' :: (b8, .cells (Rt.cells (.slice A2 t'.r.vs.length c2) t'.r).toArray 26 (0, 0)) :: rb b4 (.slice A1 r.vs.length c1) r :: M) [(8, _), (12, _)] mix (by kernel_rfl) (by repeat (first | exact trivial | refine ⟨rfl, ?_⟩)) ?_; apply TX.val []; exact rfl; kernel_rfl
      ·rintro _  rfl ; refine R.mv ?_; refine R.nl ?_; exact Run.loc rfl rfl rfl
      apply TX.val [0]; exact rfl; kernel_rfl
      ·rintro _  rfl _ rfl
       first | refine R.nc ?_ | refine R.ncf ?_
       refine R.nl ?_; exact Run.loc rfl rfl rfl
      apply TX.val [0]; exact rfl; kernel_rfl
      ·rintro _  rfl _ rfl; refine R.fa Tryz.runUnderlying78 Tryz.sizeOf26 ?_; refine R.nl ?_; exact Run.loc rfl rfl rfl
      apply TX.val [0]; exact rfl; kernel_rfl
      ·rintro _  rfl _ rfl; refine R.lA 13 Tryz.isAgg26 Tryz.sizeOf26 ?_; refine R.nl ?_; exact Run.loc rfl rfl rfl
      apply TX.late []; exact rfl; kernel_rfl
      ·intro zM hzM; rintro _  rfl ; refine R.mv ?_; refine R.nl ?_; exact Run.loc rfl rfl rfl
      apply TX.late [0]; exact rfl; kernel_rfl
      ·intro zM hzM; rintro _  rfl _ rfl
       first | refine R.nc ?_ | refine R.ncf ?_
       refine R.nl ?_; exact Run.loc rfl rfl rfl
      apply TX.late [0]; exact rfl; kernel_rfl
      ·intro zM hzM; rintro _  rfl _ rfl; refine R.fa Tryz.runUnderlying78 Tryz.sizeOf34 ?_; refine R.nl ?_; exact Run.loc rfl rfl rfl
      apply TX.late [0]; exact rfl; kernel_rfl
      ·intro zM hzM; rintro _  rfl _ rfl; refine R.ld Tryz.isAgg34 ?_ (hc := Cs.mkM (n := 1) (show tb b12 (.slice A2 t'.r.vs.length c2) (.slice A3 t'.out.length c3) t' ∈ zM from by rcases hzM with h | h <;> (rw [h]; exact .head _)) rfl); refine R.nl ?_; exact Run.loc rfl rfl rfl
      apply TX.eff [4]; exact rfl; kernel_rfl
      ·rintro _  rfl _ rfl; refine R.st Tryz.sizeOf26 ?_; refine R.nl ?_; exact Run.effd rfl (rfl)
      refine TX.fin (by rfl) ?_; rintro zM rfl; rintro _  rfl  _ rfl _ rfl _ rfl _ rfl _ rfl _ rfl _ rfl _ rfl; refine R.as ?_; refine R.as ?_; refine R.nl ?_; refine R.hs (e' := [(8, _), (9, _), (10, _)]) ?_
      rw [hs]
      first
      | exact R.rk (RV.a Tryz.isAgg26 Tryz.sizeOf26 (RV.t (RV.t .nil))) 2 ⟨Le.rfl', rfl, z0_ans _ _⟩
      | exact R.rk (RV.a Tryz.isAgg26 Tryz.sizeOf26 (RV.t (RV.t .nil))) 3 ⟨(hl1.trans hl2).trans hl3, rfl, z0_ans _ _⟩
      | exact R.rk (RV.a Tryz.isAgg26 Tryz.sizeOf26 (RV.t (RV.t .nil))) 3 ⟨(hl1.trans hl2).trans hl3, rfl, _, _, rfl, hV3, hL3⟩
  ·refine R.gF (zg3) ?_; refine R.gF (zg3) ?_; refine R.pT (zg3) ?_; refine R.nl ?_; refine R.hs (e' := [(1, _), (2, _), (3, _), (4, _), (8, _), (20, _)]) ?_; refine R.cT (rfl) ?_
   have hs : runV r now chk t' = (z0R, [], 1) := by
     rw [runV, if_pos]; simp only [errA] at *; grind
   refine R.sq ?_; refine R.rg ?_; refine R.bd Tryz.zeroValue26 places26 ?_; refine R.st Tryz.sizeOf26 ?_; refine R.as ?_; refine R.as ?_; refine R.nl ?_; refine R.hs (e' := [(8, _), (9, _), (10, _)]) ?_
   rw [hs]
   first
   | exact R.rk (RV.a Tryz.isAgg26 Tryz.sizeOf26 (RV.t (RV.t .nil))) 2 ⟨Le.rfl', rfl, z0_ans _ _⟩
   | exact R.rk (RV.a Tryz.isAgg26 Tryz.sizeOf26 (RV.t (RV.t .nil))) 3 ⟨(hl1.trans hl2).trans hl3, rfl, z0_ans _ _⟩
   | exact R.rk (RV.a Tryz.isAgg26 Tryz.sizeOf26 (RV.t (RV.t .nil))) 3 ⟨(hl1.trans hl2).trans hl3, rfl, _, _, rfl, hV3, hL3⟩
end Go.Proofs.YtgdpjpmjcpieiaaGreat

/- The calls of a route: what each one answers. No condition. -/
namespace Go.Proofs.YtgdpjpmjcpieiaaGreat
open Go
set_option linter.unusedVariables false
set_option linter.unusedSimpArgs false
set_option maxRecDepth 100000
set_option maxHeartbeats 0
theorem CS.wider {f : FuncId} {cap : List Value} {X X' : MList} {D : Dict} {c : Int} (h : CS f cap X D c) (hX : ∀ p ∈ X, p ∈ X') : CS f cap X' D c := fun g D1 M hl hm => h g D1 M hl fun p hp => hm p (hX p hp)
theorem DS.wider {f : FuncId} {cap : List Value} {X X' : MList} {D : Dict} {t t' : Tn} (h : DS f cap X D t t') (hX : ∀ p ∈ X, p ∈ X') : DS f cap X' D t t' := fun g D1 b v o q Z hl hm hV hO => h g D1 b v o q Z hl (fun p hp => hm p (hX p hp)) hV hO
def t0 (r : Rt) (now : Int) : Tn := ⟨r, now, [], 0⟩
abbrev Res := Rt × List Ou × Int
def upA (r : Rt) (id : Int) : Res := runV r 0 (upC r id) ((t0 r 0).up id)
def downA (r : Rt) (id now : Int) : Res := runV r now (dropE r.vs id) ((t0 r now).drop id).lose
def hearA (r : Rt) (src : Int) (o : Ob) (now : Int) : Res := runV r now (hearC r src o) ((t0 r now).hear src o)
def wantA (r : Rt) : Res := runV r 0 0 (({ t0 r 0 with r := { r with want := true } } : Tn).miss)
def freeA (r : Rt) : Res := runV r 0 0 { t0 r 0 with r := { r with want := false } }
def refreshA (r : Rt) (k : Int) : Res := runV r 0 (refC r k) ((t0 r 0).refresh k)
theorem up_spec {g : Gl} {D : Dict} {M : MList} {v : Value} (r : Rt) (id : Int) (hn : r.vs.length ≤ 990) (hV : Vws D v r.vs) :
    Gets Tryz.prog g 28 [.agg (Rt.cells v r).toArray, .int .i64 id] D M (fun u D' => Ans D' u (upA r id)) := by
  refine Gets.enter Tryz.func28 rfl Tryz.ntmps28 ?_; refine R.sq ?_; refine R.rg ?_; refine R.bxA (fun b2 hb2 => ?_); refine R.bx1 (fun b3 hb3 => ?_); refine R.alA Tryz.zeroValue26 (fun b4 hb4 => ?_); refine R.as ?_; refine R.as ?_; refine R.nl ?_; refine R.hs (e' := [(2, _), (3, _), (4, _)]) ?_; refine R.sq ?_; refine R.rg ?_; refine R.mf ?_; refine R.as ?_; refine R.nl ?_; refine R.hs (e' := [(2, _), (3, _), (4, _), (7, _)]) ?_; refine R.sq ?_; refine R.rg ?_; refine R.lA 13 Tryz.isAgg26 Tryz.sizeOf26 ?_; refine R.mv ?_; refine R.mf ?_; refine R.gt Tryz.call51 (run_spec (X := [rb b2 v r, ib b3 id]) r 0 (upC r id) 55 56 [pt b2, pt b3] [pt b3] ((t0 r 0).up id) hn hV (by simp) (fun _ _ => up_cs hV) (fun _ _ _ => (up_ds (t0 r 0) (by simp [t0]) (by simp [t0]; omega)).wider (by simp)) Tryz.call55 Tryz.call56) (fun zr2_3 zD4 hzD4 hzr2_3 => ?_)
  obtain ⟨w, o, hu, hw, ho⟩ := hzr2_3
  subst hu
  obtain ⟨A1, c1, hv1, _, _⟩ := hw.form
  subst hv1
  refine R.ex ?_; refine R.ex ?_; refine R.ex ?_; refine R.st Tryz.sizeOf26 ?_; refine R.as ?_; refine R.as ?_; refine R.nl ?_; refine R.hs (e' := [(4, _), (5, _), (6, _)]) ?_; exact R.rk (RV.a Tryz.isAgg26 Tryz.sizeOf26 (RV.t (RV.t .nil))) 3 ⟨by assumption, rfl, _, _, rfl, hw, ho⟩
theorem down_spec {g : Gl} {D : Dict} {M : MList} {v : Value} (r : Rt) (id now : Int) (hn : r.vs.length ≤ 990) (hV : Vws D v r.vs) :
    Gets Tryz.prog g 29 [.agg (Rt.cells v r).toArray, .int .i64 id, .int .i64 now] D M (fun u D' => Ans D' u (downA r id now)) := by
  refine Gets.enter Tryz.func29 rfl Tryz.ntmps29 ?_; refine R.sq ?_; refine R.rg ?_; refine R.bxA (fun b2 hb2 => ?_); refine R.bx1 (fun b3 hb3 => ?_); refine R.alA Tryz.zeroValue26 (fun b4 hb4 => ?_); refine R.as ?_; refine R.as ?_; refine R.nl ?_; refine R.hs (e' := [(2, _), (3, _), (4, _), (6, _)]) ?_; refine R.sq ?_; refine R.rg ?_; refine R.mf ?_; refine R.as ?_; refine R.nl ?_; refine R.hs (e' := [(2, _), (3, _), (4, _), (6, _), (9, _)]) ?_; refine R.sq ?_; refine R.rg ?_; refine R.lA 13 Tryz.isAgg26 Tryz.sizeOf26 ?_; refine R.mv ?_; refine R.mv ?_; refine R.mf ?_
  refine R.gt Tryz.call51 (run_spec (X := [rb b2 v r, ib b3 id]) r now (dropE r.vs id) 60 62 [pt b2, pt b3] [pt b3] ((t0 r now).drop id).lose hn hV (by simp) (fun _ _ => down_cs (by omega) hV) (fun _ _ _ => (down_ds (t0 r now) (by simp [t0]) (by simp [t0]; omega)).wider (by simp)) Tryz.call60 Tryz.call62) (fun zr2_4 zD4 hzD4 hzr2_4 => ?_)
  obtain ⟨w, o, hu, hw, ho⟩ := hzr2_4
  subst hu
  obtain ⟨A1, c1, hv1, _, _⟩ := hw.form
  subst hv1
  refine R.ex ?_; refine R.ex ?_; refine R.ex ?_; refine R.st Tryz.sizeOf26 ?_; refine R.as ?_; refine R.as ?_; refine R.nl ?_; refine R.hs (e' := [(6, _), (7, _), (8, _)]) ?_; exact R.rk (RV.a Tryz.isAgg26 Tryz.sizeOf26 (RV.t (RV.t .nil))) 3 ⟨by assumption, rfl, _, _, rfl, hw, ho⟩
theorem hearC_ok {r : Rt} {src : Int} {o : Ob} (h : hearC r src o = 0) : okO o = true ∧ o.dest = r.dest ∧ (getV r.vs src).isSome = true ∧ ((o.kind = 2 ∨ o.kind = 4) → o.h.id = src) := by
  unfold hearC at h
  split at h
  · cases h
  · split at h
    · cases h
    · simp_all [Option.isSome_iff_ne_none]
theorem hear_spec {g : Gl} {D : Dict} {M : MList} {v : Value} (r : Rt) (src : Int) (oo : Ob) (now : Int) (hn : r.vs.length ≤ 990) (hV : Vws D v r.vs) :
    Gets Tryz.prog g 30 [.agg (Rt.cells v r).toArray, .int .i64 src, .agg (Ob.cells oo).toArray, .int .i64 now] D M (fun u D' => Ans D' u (hearA r src oo now)) := by
  refine Gets.enter Tryz.func30 rfl Tryz.ntmps30 ?_; refine R.sq ?_; refine R.rg ?_; refine R.bxA (fun b2 hb2 => ?_); refine R.bx1 (fun b3 hb3 => ?_); refine R.bxA (fun b5 hb5 => ?_); refine R.alA Tryz.zeroValue26 (fun b4 hb4 => ?_); refine R.as ?_; refine R.as ?_; refine R.nl ?_; refine R.hs (e' := [(3, _), (4, _), (5, _), (6, _), (8, _)]) ?_; refine R.sq ?_; refine R.rg ?_; refine R.mf ?_; refine R.as ?_; refine R.nl ?_; refine R.hs (e' := [(3, _), (4, _), (5, _), (6, _), (8, _), (11, _)]) ?_; refine R.sq ?_; refine R.rg ?_; refine R.lA 13 Tryz.isAgg26 Tryz.sizeOf26 ?_; refine R.mv ?_; refine R.mv ?_; refine R.mf ?_
  refine R.gt Tryz.call51 (run_spec (X := [rb b2 v r, ib b3 src, ob b5 oo]) r now (hearC r src oo) 64 65 [pt b2, pt b3, pt b5] [pt b5, pt b3] ((t0 r now).hear src oo) hn hV (by simp) (fun _ _ => hear_cs hV) (fun _ _ hc => (hear_ds (t0 r now) (hearC_ok hc).1 (by simp [t0]) (by simp [t0]; omega)).wider (by simp)) Tryz.call64 Tryz.call65) (fun zr2_4 zD5 hzD5 hzr2_4 => ?_)
  obtain ⟨w, o, hu, hw, ho⟩ := hzr2_4
  subst hu
  obtain ⟨A1, c1, hv1, _, _⟩ := hw.form
  subst hv1
  refine R.ex ?_; refine R.ex ?_; refine R.ex ?_; refine R.st Tryz.sizeOf26 ?_; refine R.as ?_; refine R.as ?_; refine R.nl ?_; refine R.hs (e' := [(8, _), (9, _), (10, _)]) ?_; exact R.rk (RV.a Tryz.isAgg26 Tryz.sizeOf26 (RV.t (RV.t .nil))) 4 ⟨by assumption, rfl, _, _, rfl, hw, ho⟩
theorem want_spec {g : Gl} {D : Dict} {M : MList} {v : Value} (r : Rt) (hn : r.vs.length ≤ 990) (hV : Vws D v r.vs) :
    Gets Tryz.prog g 26 [.agg (Rt.cells v r).toArray] D M (fun u D' => Ans D' u (wantA r)) := by
  refine Gets.enter Tryz.func26 rfl Tryz.ntmps26 ?_; refine R.sq ?_; refine R.rg ?_; refine R.bxA (fun zb1 hzb1 => ?_); refine R.alA Tryz.zeroValue26 (fun zb2 hzb2 => ?_); refine R.as ?_; refine R.as ?_; refine R.nl ?_; refine R.hs (e' := [(1, _), (2, _)]) ?_; refine R.sq ?_; refine R.rg ?_; refine R.lA 13 Tryz.isAgg26 Tryz.sizeOf26 ?_; refine R.gt Tryz.call51 (run_spec (X := []) r 0 0 52 53 [] [] (({ t0 r 0 with r := { r with want := true } } : Tn).miss) hn hV (by simp) (fun _ _ => fine_cs) (fun _ _ _ => want_ds (t0 r 0) (by simp [t0])) Tryz.call52 Tryz.call53) (fun zr1_1 zD3 hzD3 hzr1_1 => ?_)
  obtain ⟨w, o, hu, hw, ho⟩ := hzr1_1
  subst hu
  obtain ⟨A1, c1, hv1, _, _⟩ := hw.form
  subst hv1
  refine R.ex ?_; refine R.ex ?_; refine R.ex ?_; refine R.st Tryz.sizeOf26 ?_; refine R.as ?_; refine R.as ?_; refine R.nl ?_; refine R.hs (e' := [(2, _), (3, _), (4, _)]) ?_; exact R.rk (RV.a Tryz.isAgg26 Tryz.sizeOf26 (RV.t (RV.t .nil))) 2 ⟨by assumption, rfl, _, _, rfl, hw, ho⟩
theorem free_spec {g : Gl} {D : Dict} {M : MList} {v : Value} (r : Rt) (hn : r.vs.length ≤ 990) (hV : Vws D v r.vs) :
    Gets Tryz.prog g 31 [.agg (Rt.cells v r).toArray] D M (fun u D' => Ans D' u (freeA r)) := by
  refine Gets.enter Tryz.func31 rfl Tryz.ntmps31 ?_; refine R.sq ?_; refine R.rg ?_; refine R.bxA (fun zb1 hzb1 => ?_); refine R.alA Tryz.zeroValue26 (fun zb2 hzb2 => ?_); refine R.as ?_; refine R.as ?_; refine R.nl ?_; refine R.hs (e' := [(1, _), (2, _)]) ?_; refine R.sq ?_; refine R.rg ?_; refine R.lA 13 Tryz.isAgg26 Tryz.sizeOf26 ?_; refine R.gt Tryz.call51 (run_spec (X := []) r 0 0 52 70 [] [] { t0 r 0 with r := { r with want := false } } hn hV (by simp) (fun _ _ => fine_cs) (fun _ _ _ => free_ds (t0 r 0)) Tryz.call52 Tryz.call70) (fun zr1_1 zD3 hzD3 hzr1_1 => ?_)
  obtain ⟨w, o, hu, hw, ho⟩ := hzr1_1
  subst hu
  obtain ⟨A1, c1, hv1, _, _⟩ := hw.form
  subst hv1
  refine R.ex ?_; refine R.ex ?_; refine R.ex ?_; refine R.st Tryz.sizeOf26 ?_; refine R.as ?_; refine R.as ?_; refine R.nl ?_; refine R.hs (e' := [(2, _), (3, _), (4, _)]) ?_; exact R.rk (RV.a Tryz.isAgg26 Tryz.sizeOf26 (RV.t (RV.t .nil))) 2 ⟨by assumption, rfl, _, _, rfl, hw, ho⟩
theorem crefresh_spec {g : Gl} {D : Dict} {M : MList} {v : Value} (r : Rt) (k : Int) (hn : r.vs.length ≤ 990) (hV : Vws D v r.vs) :
    Gets Tryz.prog g 32 [.agg (Rt.cells v r).toArray, .int .i64 k] D M (fun u D' => Ans D' u (refreshA r k)) := by
  refine Gets.enter Tryz.func32 rfl Tryz.ntmps32 ?_; refine R.sq ?_; refine R.rg ?_; refine R.bxA (fun b2 hb2 => ?_); refine R.bx1 (fun b3 hb3 => ?_); refine R.alA Tryz.zeroValue26 (fun b4 hb4 => ?_); refine R.as ?_; refine R.as ?_; refine R.nl ?_; refine R.hs (e' := [(2, _), (3, _), (4, _)]) ?_; refine R.sq ?_; refine R.rg ?_; refine R.mf ?_; refine R.as ?_; refine R.nl ?_; refine R.hs (e' := [(2, _), (3, _), (4, _), (7, _)]) ?_; refine R.sq ?_; refine R.rg ?_; refine R.lA 13 Tryz.isAgg26 Tryz.sizeOf26 ?_; refine R.mv ?_; refine R.mf ?_; refine R.gt Tryz.call51 (run_spec (X := [rb b2 v r, ib b3 k]) r 0 (refC r k) 71 72 [pt b2, pt b3] [pt b3] ((t0 r 0).refresh k) hn hV (by simp) (fun _ _ => refresh_cs) (fun _ _ _ => (refresh_ds (t0 r 0) (by simp [t0])).wider (by simp)) Tryz.call71 Tryz.call72) (fun zr2_3 zD4 hzD4 hzr2_3 => ?_)
  obtain ⟨w, o, hu, hw, ho⟩ := hzr2_3
  subst hu
  obtain ⟨A1, c1, hv1, _, _⟩ := hw.form
  subst hv1
  refine R.ex ?_; refine R.ex ?_; refine R.ex ?_; refine R.st Tryz.sizeOf26 ?_; refine R.as ?_; refine R.as ?_; refine R.nl ?_; refine R.hs (e' := [(4, _), (5, _), (6, _)]) ?_; exact R.rk (RV.a Tryz.isAgg26 Tryz.sizeOf26 (RV.t (RV.t .nil))) 3 ⟨by assumption, rfl, _, _, rfl, hw, ho⟩
def newA (me dest : Int) : Rt × Int := if (nodeB me && nodeB dest) = true then (⟨me, dest, if me = dest then zeroH me else nullH me, [], false, false, false, 0⟩, 0) else (z0R, 1)
abbrev RouE (v : Value) (a : Rt × Int) : Value := .tuple #[.agg (Rt.cells v a.1).toArray, .int .i64 a.2]
theorem new_spec {g : Gl} {D : Dict} {M : MList} (me dest : Int) : Gives Tryz.prog g 13 [.int .i64 me, .int .i64 dest] D M (RouE (.slice none 0 0) (newA me dest)) := by
  refine Gives.enter Tryz.func13 rfl Tryz.ntmps13 ?_; refine R.sq ?_; refine R.rg ?_; refine R.alA Tryz.zeroValue26 (fun zb1 hzb1 => ?_); refine R.as ?_; refine R.nl ?_; refine R.hs (e' := [(0, _), (1, _), (4, _)]) ?_; refine R.sq ?_; refine R.sq ?_; refine R.rg ?_; refine R.mv ?_; refine R.cg Tryz.call39 (node_spec _) ?_; refine R.nt ?_; refine R.mv ?_; refine R.gd (fun zg2 => ?_) (fun zg2 => ?_)
  ·refine R.mv ?_; refine R.gY (zg2) ?_; refine R.cg Tryz.call39 (node_spec _) ?_; refine R.gY (zg2) ?_; refine R.nt ?_; refine R.pF (zg2) ?_; refine R.nl ?_; refine R.hs (e' := [(0, _), (1, _), (4, _), (14, _)]) ?_; refine R.cd (fun zc3 => ?_) (fun zc3 => ?_)
   ·
    have hs : newA me dest = (z0R, 1) := by rw [newA, if_neg]; simp_all
    refine R.sq ?_; refine R.rg ?_; refine R.bd Tryz.zeroValue26 places26 ?_; refine R.st Tryz.sizeOf26 ?_; refine R.as ?_; refine R.nl ?_; refine R.hs (e' := [(4, _), (5, _)]) ?_
    rw [hs]
    first | exact R.rt (RV.a Tryz.isAgg26 Tryz.sizeOf26 (RV.t .nil)) 1 rfl | exact R.rt (RV.a Tryz.isAgg26 Tryz.sizeOf26 (RV.t .nil)) 2 rfl
   ·
    have hb : (nodeB me && nodeB dest) = true := by simp_all
    refine Run.skip ?_; refine R.sq ?_; refine R.rg ?_; refine R.mv ?_; refine R.cg Tryz.call25 (hNull_spec _) ?_; refine R.alA Tryz.zeroValue23 (fun zb4 hzb4 => ?_); refine R.st Tryz.sizeOf23 ?_; refine R.nl ?_; refine R.hs (e' := [(0, _), (1, _), (4, _), (6, _)]) ?_; refine R.sq ?_; refine R.sq ?_; refine R.rg ?_; refine R.mv ?_; refine R.mv ?_; refine R.cm ?_; refine R.nl ?_; refine R.hs (e' := [(0, _), (1, _), (4, _), (6, _), (20, _)]) ?_; refine R.cd (fun zc5 => ?_) (fun zc5 => ?_)
    ·
     have hq : me = dest := by simpa using zc5
     have hs : newA me dest = (⟨me, dest, zeroH me, [], false, false, false, 0⟩, 0) := by rw [newA, if_pos hb, if_pos hq]
     refine R.rg ?_; refine R.mv ?_; refine R.cg Tryz.call22 (zero_spec _) ?_; refine R.st Tryz.sizeOf23 ?_; refine R.nl ?_; refine R.hs (e' := [(0, _), (1, _), (4, _), (6, _)]) ?_; refine R.sq ?_; refine R.rg ?_; refine R.mv ?_; refine R.mv ?_; refine R.lA 6 Tryz.isAgg23 Tryz.sizeOf23 ?_; refine R.bd Tryz.zeroValue26 places26 ?_; refine R.st Tryz.sizeOf26 ?_; refine R.as ?_; refine R.nl ?_; refine R.hs (e' := [(4, _), (5, _)]) ?_
     rw [hs]
     first | exact R.rt (RV.a Tryz.isAgg26 Tryz.sizeOf26 (RV.t .nil)) 2 rfl | exact R.rt (RV.a Tryz.isAgg26 Tryz.sizeOf26 (RV.t .nil)) 2 rfl
    ·
     have hq : ¬ me = dest := by simpa using zc5
     have hs : newA me dest = (⟨me, dest, nullH me, [], false, false, false, 0⟩, 0) := by rw [newA, if_pos hb, if_neg hq]
     refine Run.skip ?_; refine R.sq ?_; refine R.rg ?_; refine R.mv ?_; refine R.mv ?_; refine R.lA 6 Tryz.isAgg23 Tryz.sizeOf23 ?_; refine R.bd Tryz.zeroValue26 places26 ?_; refine R.st Tryz.sizeOf26 ?_; refine R.as ?_; refine R.nl ?_; refine R.hs (e' := [(4, _), (5, _)]) ?_
     rw [hs]
     first | exact R.rt (RV.a Tryz.isAgg26 Tryz.sizeOf26 (RV.t .nil)) 2 rfl | exact R.rt (RV.a Tryz.isAgg26 Tryz.sizeOf26 (RV.t .nil)) 2 rfl
  ·refine R.gF (zg2) ?_; refine R.gF (zg2) ?_; refine R.pT (zg2) ?_; refine R.nl ?_; refine R.hs (e' := [(0, _), (1, _), (4, _), (14, _)]) ?_; refine R.cT (rfl) ?_
   have hs : newA me dest = (z0R, 1) := by rw [newA, if_neg]; simp_all
   refine R.sq ?_; refine R.rg ?_; refine R.bd Tryz.zeroValue26 places26 ?_; refine R.st Tryz.sizeOf26 ?_; refine R.as ?_; refine R.nl ?_; refine R.hs (e' := [(4, _), (5, _)]) ?_
   rw [hs]
   first | exact R.rt (RV.a Tryz.isAgg26 Tryz.sizeOf26 (RV.t .nil)) 1 rfl | exact R.rt (RV.a Tryz.isAgg26 Tryz.sizeOf26 (RV.t .nil)) 2 rfl
end Go.Proofs.YtgdpjpmjcpieiaaGreat

/- A call of a route, whichever; the chapter's example. No condition. -/
namespace Go.Proofs.YtgdpjpmjcpieiaaGreat
open Go
set_option linter.unusedVariables false
set_option linter.unusedSimpArgs false
set_option maxRecDepth 100000
set_option maxHeartbeats 0
structure Opn where
  call : Int
  id : Int
  ob : Ob
  now : Int
  num : Int
  deriving DecidableEq, Inhabited
abbrev Opn.cells (o : Opn) : List Value := [.int .i64 o.call, .int .i64 o.id, .int .i64 o.ob.kind, .int .i64 o.ob.dest, .bool o.ob.h.null, .int .i64 o.ob.h.tau, .int .i64 o.ob.h.oid, .int .i64 o.ob.h.r, .int .i64 o.ob.h.delta, .int .i64 o.ob.h.id, .int .i64 o.ob.l.tau, .int .i64 o.ob.l.oid, .int .i64 o.ob.l.r, .int .i64 o.ob.num, .int .i64 o.now, .int .i64 o.num]
def stepA (r : Rt) (o : Opn) : Res :=
  if o.call = 0 then upA r o.id else if o.call = 1 then downA r o.id o.now else if o.call = 2 then hearA r o.id o.ob o.now else if o.call = 3 then wantA r else if o.call = 4 then freeA r else refreshA r o.num
theorem step_spec {g : Gl} {D : Dict} {M : MList} {v : Value} (r : Rt) (o : Opn) (hn : r.vs.length ≤ 990) (hV : Vws D v r.vs) :
    Gets Tryz.prog g 11 [.agg (Rt.cells v r).toArray, .agg (Opn.cells o).toArray] D M (fun u D' => Ans D' u (stepA r o)) := by
  refine Gets.enter Tryz.func11 rfl Tryz.ntmps11 ?_; refine R.sq ?_; refine R.rg ?_; refine R.bxA (fun zb1 hzb1 => ?_); refine R.bxA (fun zb2 hzb2 => ?_); refine R.alA Tryz.zeroValue26 (fun zb3 hzb3 => ?_); refine R.as ?_; refine R.as ?_; refine R.nl ?_; refine R.hs (e' := [(2, _), (3, _), (4, _)]) ?_; refine R.sq ?_; refine R.sq ?_; refine R.rg ?_; refine R.fa Tryz.runUnderlying32 Tryz.sizeOf3 ?_; refine R.ld Tryz.isAgg3 ?_; refine R.nl ?_; refine R.hs (e' := [(2, _), (3, _), (4, _), (8, _)]) ?_; refine Run.block ?_; refine R.sq ?_; refine R.rg ?_; refine R.cm ?_; refine R.as ?_; refine R.nl ?_; refine R.hs (e' := [(2, _), (3, _), (4, _), (8, _), (9, _)]) ?_; refine R.cd (fun zc4 => ?_) (fun zc4 => ?_)
  ·
   have c0 : o.call = 0 := by simpa using zc4
   have hs : stepA r o = upA r o.id := by rw [stepA, if_pos c0]
   refine R.sq ?_; refine R.rg ?_; refine R.lA 13 Tryz.isAgg26 Tryz.sizeOf26 ?_; refine R.fa Tryz.runUnderlying32 Tryz.sizeOf3 ?_; refine R.ld Tryz.isAgg3 ?_; refine R.gt Tryz.call28 (up_spec r o.id hn hV) (fun zr3_3 zD5 hzD5 hzr3_3 => ?_)
   obtain ⟨w, oo, hu, hw, ho⟩ := hzr3_3
   subst hu
   obtain ⟨A1, c1', hv1, _, _⟩ := hw.form
   subst hv1
   refine R.ex ?_; refine R.ex ?_; refine R.ex ?_; refine R.st Tryz.sizeOf26 ?_; refine R.as ?_; refine R.as ?_; refine R.nl ?_; refine R.hs (e' := [(4, _), (5, _), (6, _)]) ?_; exact R.rk (RV.a Tryz.isAgg26 Tryz.sizeOf26 (RV.t (RV.t .nil))) 3 ⟨by assumption, rfl, by rw [hs]; exact ⟨_, _, rfl, hw, ho⟩⟩
  ·
   have c0 : ¬ o.call = 0 := by simpa using zc4
   refine R.sq ?_; refine R.rg ?_; refine R.cm ?_; refine R.as ?_; refine R.nl ?_; refine R.hs (e' := [(2, _), (3, _), (4, _), (8, _), (18, _)]) ?_; refine R.cd (fun zc6 => ?_) (fun zc6 => ?_)
   ·
    have c1 : o.call = 1 := by simpa using zc6
    have hs : stepA r o = downA r o.id o.now := by rw [stepA, if_neg c0, if_pos c1]
    refine R.sq ?_; refine R.rg ?_; refine R.lA 13 Tryz.isAgg26 Tryz.sizeOf26 ?_; refine R.fa Tryz.runUnderlying32 Tryz.sizeOf3 ?_; refine R.ld Tryz.isAgg3 ?_; refine R.fa Tryz.runUnderlying32 Tryz.sizeOf3 ?_; refine R.ld Tryz.isAgg3 ?_; refine R.gt Tryz.call29 (down_spec r o.id o.now hn hV) (fun zr5_5 zD7 hzD7 hzr5_5 => ?_)
    try replace hzr3_3 := hzr3_3.mono hzD7
    obtain ⟨w, oo, hu, hw, ho⟩ := hzr5_5
    subst hu
    obtain ⟨A1, c1', hv1, _, _⟩ := hw.form
    subst hv1
    refine R.ex ?_; refine R.ex ?_; refine R.ex ?_; refine R.st Tryz.sizeOf26 ?_; refine R.as ?_; refine R.as ?_; refine R.nl ?_; refine R.hs (e' := [(4, _), (5, _), (6, _)]) ?_; exact R.rk (RV.a Tryz.isAgg26 Tryz.sizeOf26 (RV.t (RV.t .nil))) 3 ⟨by assumption, rfl, by rw [hs]; exact ⟨_, _, rfl, hw, ho⟩⟩
   ·
    have c1 : ¬ o.call = 1 := by simpa using zc6
    refine R.sq ?_; refine R.rg ?_; refine R.cm ?_; refine R.as ?_; refine R.nl ?_; refine R.hs (e' := [(2, _), (3, _), (4, _), (8, _), (29, _)]) ?_; refine R.cd (fun zc8 => ?_) (fun zc8 => ?_)
    ·
     have c2 : o.call = 2 := by simpa using zc8
     have hs : stepA r o = hearA r o.id o.ob o.now := by rw [stepA, if_neg c0, if_neg c1, if_pos c2]
     refine R.sq ?_; refine R.rg ?_; refine R.lA 13 Tryz.isAgg26 Tryz.sizeOf26 ?_; refine R.fa Tryz.runUnderlying32 Tryz.sizeOf3 ?_; refine R.ld Tryz.isAgg3 ?_; refine R.fa Tryz.runUnderlying32 Tryz.sizeOf30 ?_; refine R.lA 12 Tryz.isAgg30 Tryz.sizeOf30 ?_; refine R.fa Tryz.runUnderlying32 Tryz.sizeOf3 ?_; refine R.ld Tryz.isAgg3 ?_; refine R.gt Tryz.call30 (hear_spec r o.id o.ob o.now hn hV) (fun zr7_7 zD9 hzD9 hzr7_7 => ?_)
     try replace hzr3_3 := hzr3_3.mono hzD9
     try replace hzr5_5 := hzr5_5.mono hzD9
     obtain ⟨w, oo, hu, hw, ho⟩ := hzr7_7
     subst hu
     obtain ⟨A1, c1', hv1, _, _⟩ := hw.form
     subst hv1
     refine R.ex ?_; refine R.ex ?_; refine R.ex ?_; refine R.st Tryz.sizeOf26 ?_; refine R.as ?_; refine R.as ?_; refine R.nl ?_; refine R.hs (e' := [(4, _), (5, _), (6, _)]) ?_; exact R.rk (RV.a Tryz.isAgg26 Tryz.sizeOf26 (RV.t (RV.t .nil))) 3 ⟨by assumption, rfl, by rw [hs]; exact ⟨_, _, rfl, hw, ho⟩⟩
    ·
     have c2 : ¬ o.call = 2 := by simpa using zc8
     refine R.sq ?_; refine R.rg ?_; refine R.cm ?_; refine R.as ?_; refine R.nl ?_; refine R.hs (e' := [(2, _), (3, _), (4, _), (8, _), (42, _)]) ?_; refine R.cd (fun zc10 => ?_) (fun zc10 => ?_)
     ·
      have c3 : o.call = 3 := by simpa using zc10
      have hs : stepA r o = wantA r := by rw [stepA, if_neg c0, if_neg c1, if_neg c2, if_pos c3]
      refine R.sq ?_; refine R.rg ?_; refine R.lA 13 Tryz.isAgg26 Tryz.sizeOf26 ?_; refine R.gt Tryz.call26 (want_spec r hn hV) (fun zr9_1 zD11 hzD11 hzr9_1 => ?_)
      try replace hzr3_3 := hzr3_3.mono hzD11
      try replace hzr5_5 := hzr5_5.mono hzD11
      try replace hzr7_7 := hzr7_7.mono hzD11
      obtain ⟨w, oo, hu, hw, ho⟩ := hzr9_1
      subst hu
      obtain ⟨A1, c1', hv1, _, _⟩ := hw.form
      subst hv1
      refine R.ex ?_; refine R.ex ?_; refine R.ex ?_; refine R.st Tryz.sizeOf26 ?_; refine R.as ?_; refine R.as ?_; refine R.nl ?_; refine R.hs (e' := [(4, _), (5, _), (6, _)]) ?_; exact R.rk (RV.a Tryz.isAgg26 Tryz.sizeOf26 (RV.t (RV.t .nil))) 3 ⟨by assumption, rfl, by rw [hs]; exact ⟨_, _, rfl, hw, ho⟩⟩
     ·
      have c3 : ¬ o.call = 3 := by simpa using zc10
      refine R.sq ?_; refine R.rg ?_; refine R.cm ?_; refine R.as ?_; refine R.nl ?_; refine R.hs (e' := [(2, _), (3, _), (4, _), (49, _)]) ?_; refine R.cd (fun zc12 => ?_) (fun zc12 => ?_)
      ·
       have c4 : o.call = 4 := by simpa using zc12
       have hs : stepA r o = freeA r := by rw [stepA, if_neg c0, if_neg c1, if_neg c2, if_neg c3, if_pos c4]
       refine R.sq ?_; refine R.rg ?_; refine R.lA 13 Tryz.isAgg26 Tryz.sizeOf26 ?_; refine R.gt Tryz.call31 (free_spec r hn hV) (fun zr11_1 zD13 hzD13 hzr11_1 => ?_)
       try replace hzr3_3 := hzr3_3.mono hzD13
       try replace hzr5_5 := hzr5_5.mono hzD13
       try replace hzr7_7 := hzr7_7.mono hzD13
       try replace hzr9_1 := hzr9_1.mono hzD13
       obtain ⟨w, oo, hu, hw, ho⟩ := hzr11_1
       subst hu
       obtain ⟨A1, c1', hv1, _, _⟩ := hw.form
       subst hv1
       refine R.ex ?_; refine R.ex ?_; refine R.ex ?_; refine R.st Tryz.sizeOf26 ?_; refine R.as ?_; refine R.as ?_; refine R.nl ?_; refine R.hs (e' := [(4, _), (5, _), (6, _)]) ?_; exact R.rk (RV.a Tryz.isAgg26 Tryz.sizeOf26 (RV.t (RV.t .nil))) 3 ⟨by assumption, rfl, by rw [hs]; exact ⟨_, _, rfl, hw, ho⟩⟩
      ·
       have c4 : ¬ o.call = 4 := by simpa using zc12
       have hs : stepA r o = refreshA r o.num := by rw [stepA, if_neg c0, if_neg c1, if_neg c2, if_neg c3, if_neg c4]
       refine Run.skip ?_; refine Run.endBlock ?_; refine R.sq ?_; refine R.rg ?_; refine R.lA 13 Tryz.isAgg26 Tryz.sizeOf26 ?_; refine R.fa Tryz.runUnderlying32 Tryz.sizeOf3 ?_; refine R.ld Tryz.isAgg3 ?_; refine R.gt Tryz.call32 (crefresh_spec r o.num hn hV) (fun zr12_3 zD14 hzD14 hzr12_3 => ?_)
       try replace hzr3_3 := hzr3_3.mono hzD14
       try replace hzr5_5 := hzr5_5.mono hzD14
       try replace hzr7_7 := hzr7_7.mono hzD14
       try replace hzr9_1 := hzr9_1.mono hzD14
       try replace hzr11_1 := hzr11_1.mono hzD14
       obtain ⟨w, oo, hu, hw, ho⟩ := hzr12_3
       subst hu
       obtain ⟨A1, c1', hv1, _, _⟩ := hw.form
       subst hv1
       refine R.ex ?_; refine R.ex ?_; refine R.ex ?_; refine R.st Tryz.sizeOf26 ?_; refine R.as ?_; refine R.as ?_; refine R.nl ?_; refine R.hs (e' := [(4, _), (5, _), (6, _)]) ?_; exact R.rk (RV.a Tryz.isAgg26 Tryz.sizeOf26 (RV.t (RV.t .nil))) 3 ⟨by assumption, rfl, by rw [hs]; exact ⟨_, _, rfl, hw, ho⟩⟩
def aw0 : Rt := ⟨5, 1, nullH 5, [], false, false, false, 0⟩
def aw1 : Rt := ⟨5, 1, nullH 5, [⟨3, nullH 3⟩], false, false, false, 0⟩
def aw2 : Rt := ⟨5, 1, nullH 5, [⟨3, nullH 3⟩], true, true, false, 0⟩
def aw3 : Rt := ⟨5, 1, ⟨false, 0, 0, 0, 2, 5⟩, [⟨3, ⟨false, 0, 0, 0, 1, 3⟩⟩], false, true, false, 0⟩
def awO1 : List Ou := [⟨255, ⟨1, 1, z0H, z0L, 0⟩⟩]
def awO2 : List Ou := [⟨255, ⟨2, 1, ⟨false, 0, 0, 0, 2, 5⟩, z0L, 0⟩⟩]
def awOb : Ob := ⟨2, 1, ⟨false, 0, 0, 0, 1, 3⟩, z0L, 0⟩
theorem aw_0 : newA 5 1 = (aw0, 0) := by decide
theorem aw_1 : upA aw0 3 = (aw1, [], 0) := by decide
theorem aw_2 : wantA aw1 = (aw2, awO1, 0) := by decide
theorem aw_3 : hearA aw2 3 awOb 9 = (aw3, awO2, 0) := by decide
theorem awake20_spec {g : Gl} {D : Dict} {M : MList} : Gives Tryz.prog g 15 [] D M (.bool true) := by
  have hle : Le D D := Le.rfl'
  have hN := fun M => new_spec (g := g) (D := D) (M := M) 5 1
  simp only [aw_0] at hN
  have hV0 : Vws D (.slice none 0 0) aw0.vs := Lst.nil _ _ _
  refine Gives.enter Tryz.func15 rfl Tryz.ntmps15 ?_; refine R.sq ?_; refine R.rg ?_; refine R.as ?_; refine R.nl ?_; refine R.hs (e' := []) ?_; refine R.sq ?_; refine R.rg ?_; refine R.cg Tryz.call13 (hN _) ?_; refine R.mv ?_; refine R.ex ?_; refine R.ex ?_; refine R.alA Tryz.zeroValue26 (fun b1 hb1 => ?_); refine R.st Tryz.sizeOf26 ?_; refine R.as ?_; refine R.nl ?_; refine R.hs (e' := [(1, _), (2, _)]) ?_; refine R.sq ?_; refine R.rg ?_; refine R.lA 13 Tryz.isAgg26 Tryz.sizeOf26 ?_; refine R.gt Tryz.call28 (up_spec aw0 3 (by decide) hV0) (fun zr2_1 zD2 hzD2 hzr2_1 => ?_)
  try replace hle := hle.mono hzD2
  rw [aw_1] at hzr2_1
  obtain ⟨w1, o1, hu, hw1, ho1⟩ := hzr2_1
  subst hu
  obtain ⟨A1, c1, hv1, _, _⟩ := hw1.form
  subst hv1
  refine R.mv ?_; refine R.ex ?_; refine R.ex ?_; refine R.ex ?_; refine R.st Tryz.sizeOf26 ?_; refine R.as ?_; refine R.as ?_; refine R.nl ?_; refine R.hs (e' := [(1, _), (2, _), (4, _)]) ?_; refine R.sq ?_; refine R.rg ?_; refine R.lA 13 Tryz.isAgg26 Tryz.sizeOf26 ?_; refine R.gt Tryz.call26 (want_spec aw1 (by decide) hw1) (fun zr3_1 zD3 hzD3 hzr3_1 => ?_)
  try replace hle := hle.mono hzD3
  try replace hzr2_1 := hzr2_1.mono hzD3
  rw [aw_2] at hzr3_1
  obtain ⟨w2, o2, hu, hw2, ho2⟩ := hzr3_1
  subst hu
  obtain ⟨A2, c2, hv2, _, _⟩ := hw2.form
  subst hv2
  obtain ⟨bo2, oo2, hI2, hc2⟩ := ho2.at Ou.len (i := 0) (x := ⟨255, ⟨1, 1, z0H, z0L, 0⟩⟩) rfl
  refine R.mv ?_; refine R.ex ?_; refine R.ex ?_; refine R.ex ?_; refine R.st Tryz.sizeOf26 ?_; refine R.as ?_; refine R.as ?_; refine R.nl ?_; refine R.hs (e' := [(1, _), (2, _), (4, _), (5, _), (6, _)]) ?_; refine R.sq ?_; refine R.sq ?_; refine R.rg ?_; refine R.mv ?_; refine R.cm ?_; refine R.mv ?_; refine R.gd (fun zg4 => ?_) (fun zg4 => ?_)
  ·refine R.mv ?_; refine R.gY (zg4) ?_; refine R.mv ?_; refine R.gY (zg4) ?_; refine R.cm ?_; refine R.pF (zg4) ?_; refine R.mv ?_; refine R.gd (fun zg5 => ?_) (fun zg5 => ?_)
   ·refine R.mv ?_; refine R.gY (zg5) ?_; refine R.mv ?_; refine R.gY (zg5) ?_; refine R.cm ?_; refine R.pF (zg5) ?_; refine R.mv ?_; refine R.gd (fun zg6 => ?_) (fun zg6 => ?_)
    ·refine R.mv ?_; refine R.gY (zg6) ?_; refine R.ll (ho2) Tryz.runUnderlying34 ?_; refine R.gY (zg6) ?_; refine R.cm ?_; refine R.pF (zg6) ?_; refine R.mv ?_; refine R.gd (fun zg7 => ?_) (fun zg7 => ?_)
     ·refine R.mv ?_; refine R.gY (zg7) ?_; refine R.ix (hI2) Tryz.runUnderlying34 Tryz.sizeOf50 ?_; refine R.gY (zg7) ?_; refine R.fa Tryz.runUnderlying50 Tryz.sizeOf30 ?_; refine R.gY (zg7) ?_; refine R.fa Tryz.runUnderlying30 Tryz.sizeOf3 ?_; refine R.gY (zg7) ?_; refine R.ldD Tryz.isAgg3 ?_; refine R.gY (zg7) ?_; refine R.cm ?_; refine R.pF (zg7) ?_; refine R.mv ?_; refine R.gd (fun zg8 => ?_) (fun zg8 => ?_)
      ·refine R.fa Tryz.runUnderlying26 Tryz.sizeOf4 ?_; refine R.gY (zg8) ?_; refine R.ld Tryz.isAgg4 ?_; refine R.gY (zg8) ?_; refine R.nt ?_; refine R.pF (zg8) ?_; refine R.nl ?_; refine R.hs (e' := [(1, _), (52, _)]) ?_; refine R.cd (fun zc9 => ?_) (fun zc9 => ?_)
       ·refine R.sq ?_; refine R.rg ?_; refine R.as ?_; refine R.nl ?_; refine R.hs (e' := [(0, _)]) ?_; refine R.rl (RV.t .nil) 1 hle (congrArg Value.bool ?_)
        simp_all [aw2, aw3, awO1, awO2]
       ·refine Run.skip ?_; refine R.sq ?_; refine R.rg ?_; refine R.lA 13 Tryz.isAgg26 Tryz.sizeOf26 ?_; refine R.bd Tryz.zeroValue23 places23 ?_; refine R.bd Tryz.zeroValue30 places30 ?_; refine R.gt Tryz.call30 (hear_spec aw2 3 awOb 9 (by decide) hw2) (fun zr6_3 zD10 hzD10 hzr6_3 => ?_)
        try replace hle := hle.mono hzD10
        try replace hzr2_1 := hzr2_1.mono hzD10
        try replace hzr3_1 := hzr3_1.mono hzD10
        rw [aw_3] at hzr6_3
        obtain ⟨w3, o3, hu, hw3, ho3⟩ := hzr6_3
        subst hu
        obtain ⟨A3, c3, hv3, _, _⟩ := hw3.form
        subst hv3
        obtain ⟨bo3, oo3, hI3, hc3⟩ := ho3.at Ou.len (i := 0) (x := ⟨255, ⟨2, 1, ⟨false, 0, 0, 0, 2, 5⟩, z0L, 0⟩⟩) rfl
        refine R.mv ?_; refine R.ex ?_; refine R.ex ?_; refine R.ex ?_; refine R.st Tryz.sizeOf26 ?_; refine R.as ?_; refine R.as ?_; refine R.nl ?_; refine R.hs (e' := [(1, _), (2, _), (5, _)]) ?_; refine R.sq ?_; refine R.rg ?_; refine R.mv ?_; refine R.cm ?_; refine R.mv ?_; refine R.gd (fun zg11 => ?_) (fun zg11 => ?_)
        ·refine R.fa Tryz.runUnderlying26 Tryz.sizeOf23 ?_; refine R.gY (zg11) ?_; refine R.lA 6 Tryz.isAgg23 Tryz.sizeOf23 ?_; refine R.gY (zg11) ?_; refine R.bd Tryz.zeroValue23 places23 ?_; refine R.gY (zg11) ?_; refine R.ea Tryz.eqGuardType23 (eqAt23 _ _ _ _ _ _ _ _ _ _ _ _) ?_; refine R.pT (zg11) ?_; refine R.mv ?_; refine R.gd (fun zg12 => ?_) (fun zg12 => ?_)
         ·refine R.fa Tryz.runUnderlying26 Tryz.sizeOf4 ?_; refine R.gY (zg12) ?_; refine R.ld Tryz.isAgg4 ?_; refine R.gY (zg12) ?_; refine R.nt ?_; refine R.pT (zg12) ?_; refine R.mv ?_; refine R.gd (fun zg13 => ?_) (fun zg13 => ?_)
          ·refine R.mv ?_; refine R.gY (zg13) ?_; refine R.ll (ho3) Tryz.runUnderlying34 ?_; refine R.gY (zg13) ?_; refine R.cm ?_; refine R.pT (zg13) ?_; refine R.mv ?_; refine R.gd (fun zg14 => ?_) (fun zg14 => ?_)
           ·refine R.mv ?_; refine R.gY (zg14) ?_; refine R.ix (hI3) Tryz.runUnderlying34 Tryz.sizeOf50 ?_; refine R.gY (zg14) ?_; refine R.fa Tryz.runUnderlying50 Tryz.sizeOf3 ?_; refine R.gY (zg14) ?_; refine R.ldD Tryz.isAgg3 ?_; refine R.gY (zg14) ?_; refine R.cm ?_; refine R.pT (zg14) ?_; refine R.mv ?_; refine R.gd (fun zg15 => ?_) (fun zg15 => ?_)
            ·refine R.mv ?_; refine R.gY (zg15) ?_; refine R.ix (hI3) Tryz.runUnderlying34 Tryz.sizeOf50 ?_; refine R.gY (zg15) ?_; refine R.fa Tryz.runUnderlying50 Tryz.sizeOf30 ?_; refine R.gY (zg15) ?_; refine R.fa Tryz.runUnderlying30 Tryz.sizeOf3 ?_; refine R.gY (zg15) ?_; refine R.ldD Tryz.isAgg3 ?_; refine R.gY (zg15) ?_; refine R.cm ?_; refine R.pT (zg15) ?_; refine R.as ?_; refine R.nl ?_; refine R.hs (e' := [(0, _)]) ?_; refine R.rl (RV.t .nil) 1 hle (congrArg Value.bool ?_)
             simp_all [aw2, aw3, awO1, awO2]
            ·refine R.gF (zg15) ?_; refine R.gF (zg15) ?_; refine R.gF (zg15) ?_; refine R.gF (zg15) ?_; refine R.gF (zg15) ?_; refine R.pF (zg15) ?_; refine R.as ?_; refine R.nl ?_; refine R.hs (e' := [(0, _)]) ?_; refine R.rl (RV.t .nil) 1 hle (congrArg Value.bool ?_)
             simp_all [aw2, aw3, awO1, awO2]
           ·refine R.gF (zg14) ?_; refine R.gF (zg14) ?_; refine R.gF (zg14) ?_; refine R.gF (zg14) ?_; refine R.pF (zg14) ?_; refine R.mv ?_; refine R.gF (rfl) ?_; refine R.gF (rfl) ?_; refine R.gF (rfl) ?_; refine R.gF (rfl) ?_; refine R.gF (rfl) ?_; refine R.gF (rfl) ?_; refine R.pF (rfl) ?_; refine R.as ?_; refine R.nl ?_; refine R.hs (e' := [(0, _)]) ?_; refine R.rl (RV.t .nil) 1 hle (congrArg Value.bool ?_)
            simp_all [aw2, aw3, awO1, awO2]
          ·refine R.gF (zg13) ?_; refine R.gF (zg13) ?_; refine R.pF (zg13) ?_; refine R.mv ?_; refine R.gF (rfl) ?_; refine R.gF (rfl) ?_; refine R.gF (rfl) ?_; refine R.gF (rfl) ?_; refine R.gF (rfl) ?_; refine R.pF (rfl) ?_; refine R.mv ?_; refine R.gF (rfl) ?_; refine R.gF (rfl) ?_; refine R.gF (rfl) ?_; refine R.gF (rfl) ?_; refine R.gF (rfl) ?_; refine R.gF (rfl) ?_; refine R.pF (rfl) ?_; refine R.as ?_; refine R.nl ?_; refine R.hs (e' := [(0, _)]) ?_; refine R.rl (RV.t .nil) 1 hle (congrArg Value.bool ?_)
           simp_all [aw2, aw3, awO1, awO2]
         ·refine R.gF (zg12) ?_; refine R.gF (zg12) ?_; refine R.pF (zg12) ?_; refine R.mv ?_; refine R.gF (rfl) ?_; refine R.gF (rfl) ?_; refine R.gF (rfl) ?_; refine R.pF (rfl) ?_; refine R.mv ?_; refine R.gF (rfl) ?_; refine R.gF (rfl) ?_; refine R.gF (rfl) ?_; refine R.gF (rfl) ?_; refine R.gF (rfl) ?_; refine R.pF (rfl) ?_; refine R.mv ?_; refine R.gF (rfl) ?_; refine R.gF (rfl) ?_; refine R.gF (rfl) ?_; refine R.gF (rfl) ?_; refine R.gF (rfl) ?_; refine R.gF (rfl) ?_; refine R.pF (rfl) ?_; refine R.as ?_; refine R.nl ?_; refine R.hs (e' := [(0, _)]) ?_; refine R.rl (RV.t .nil) 1 hle (congrArg Value.bool ?_)
          simp_all [aw2, aw3, awO1, awO2]
        ·refine R.gF (zg11) ?_; refine R.gF (zg11) ?_; refine R.gF (zg11) ?_; refine R.pF (zg11) ?_; refine R.mv ?_; refine R.gF (rfl) ?_; refine R.gF (rfl) ?_; refine R.gF (rfl) ?_; refine R.pF (rfl) ?_; refine R.mv ?_; refine R.gF (rfl) ?_; refine R.gF (rfl) ?_; refine R.gF (rfl) ?_; refine R.pF (rfl) ?_; refine R.mv ?_; refine R.gF (rfl) ?_; refine R.gF (rfl) ?_; refine R.gF (rfl) ?_; refine R.gF (rfl) ?_; refine R.gF (rfl) ?_; refine R.pF (rfl) ?_; refine R.mv ?_; refine R.gF (rfl) ?_; refine R.gF (rfl) ?_; refine R.gF (rfl) ?_; refine R.gF (rfl) ?_; refine R.gF (rfl) ?_; refine R.gF (rfl) ?_; refine R.pF (rfl) ?_; refine R.as ?_; refine R.nl ?_; refine R.hs (e' := [(0, _)]) ?_; refine R.rl (RV.t .nil) 1 hle (congrArg Value.bool ?_)
         simp_all [aw2, aw3, awO1, awO2]
      ·refine R.gF (zg8) ?_; refine R.gF (zg8) ?_; refine R.pT (zg8) ?_; refine R.nl ?_; refine R.hs (e' := [(1, _), (52, _)]) ?_; refine R.cT (rfl) ?_; refine R.sq ?_; refine R.rg ?_; refine R.as ?_; refine R.nl ?_; refine R.hs (e' := [(0, _)]) ?_; refine R.rl (RV.t .nil) 1 hle (congrArg Value.bool ?_)
       simp_all [aw2, aw3, awO1, awO2]
     ·refine R.gF (zg7) ?_; refine R.gF (zg7) ?_; refine R.gF (zg7) ?_; refine R.gF (zg7) ?_; refine R.gF (zg7) ?_; refine R.pT (zg7) ?_; refine R.mv ?_; refine R.gF (rfl) ?_; refine R.gF (rfl) ?_; refine R.gF (rfl) ?_; refine R.pT (rfl) ?_; refine R.nl ?_; refine R.hs (e' := [(1, _), (52, _)]) ?_; refine R.cT (rfl) ?_; refine R.sq ?_; refine R.rg ?_; refine R.as ?_; refine R.nl ?_; refine R.hs (e' := [(0, _)]) ?_; refine R.rl (RV.t .nil) 1 hle (congrArg Value.bool ?_)
      simp_all [aw2, aw3, awO1, awO2]
    ·refine R.gF (zg6) ?_; refine R.gF (zg6) ?_; refine R.pT (zg6) ?_; refine R.mv ?_; refine R.gF (rfl) ?_; refine R.gF (rfl) ?_; refine R.gF (rfl) ?_; refine R.gF (rfl) ?_; refine R.gF (rfl) ?_; refine R.gF (rfl) ?_; refine R.pT (rfl) ?_; refine R.mv ?_; refine R.gF (rfl) ?_; refine R.gF (rfl) ?_; refine R.gF (rfl) ?_; refine R.pT (rfl) ?_; refine R.nl ?_; refine R.hs (e' := [(1, _), (52, _)]) ?_; refine R.cT (rfl) ?_; refine R.sq ?_; refine R.rg ?_; refine R.as ?_; refine R.nl ?_; refine R.hs (e' := [(0, _)]) ?_; refine R.rl (RV.t .nil) 1 hle (congrArg Value.bool ?_)
     simp_all [aw2, aw3, awO1, awO2]
   ·refine R.gF (zg5) ?_; refine R.gF (zg5) ?_; refine R.pT (zg5) ?_; refine R.mv ?_; refine R.gF (rfl) ?_; refine R.gF (rfl) ?_; refine R.gF (rfl) ?_; refine R.pT (rfl) ?_; refine R.mv ?_; refine R.gF (rfl) ?_; refine R.gF (rfl) ?_; refine R.gF (rfl) ?_; refine R.gF (rfl) ?_; refine R.gF (rfl) ?_; refine R.gF (rfl) ?_; refine R.pT (rfl) ?_; refine R.mv ?_; refine R.gF (rfl) ?_; refine R.gF (rfl) ?_; refine R.gF (rfl) ?_; refine R.pT (rfl) ?_; refine R.nl ?_; refine R.hs (e' := [(1, _), (52, _)]) ?_; refine R.cT (rfl) ?_; refine R.sq ?_; refine R.rg ?_; refine R.as ?_; refine R.nl ?_; refine R.hs (e' := [(0, _)]) ?_; refine R.rl (RV.t .nil) 1 hle (congrArg Value.bool ?_)
    simp_all [aw2, aw3, awO1, awO2]
  ·refine R.gF (zg4) ?_; refine R.gF (zg4) ?_; refine R.pT (zg4) ?_; refine R.mv ?_; refine R.gF (rfl) ?_; refine R.gF (rfl) ?_; refine R.gF (rfl) ?_; refine R.pT (rfl) ?_; refine R.mv ?_; refine R.gF (rfl) ?_; refine R.gF (rfl) ?_; refine R.gF (rfl) ?_; refine R.pT (rfl) ?_; refine R.mv ?_; refine R.gF (rfl) ?_; refine R.gF (rfl) ?_; refine R.gF (rfl) ?_; refine R.gF (rfl) ?_; refine R.gF (rfl) ?_; refine R.gF (rfl) ?_; refine R.pT (rfl) ?_; refine R.mv ?_; refine R.gF (rfl) ?_; refine R.gF (rfl) ?_; refine R.gF (rfl) ?_; refine R.pT (rfl) ?_; refine R.nl ?_; refine R.hs (e' := [(1, _), (52, _)]) ?_; refine R.cT (rfl) ?_; refine R.sq ?_; refine R.rg ?_; refine R.as ?_; refine R.nl ?_; refine R.hs (e' := [(0, _)]) ?_; refine R.rl (RV.t .nil) 1 hle (congrArg Value.bool ?_)
   simp_all [aw2, aw3, awO1, awO2]
end Go.Proofs.YtgdpjpmjcpieiaaGreat

/- Who wants a way has asked, plainly. No condition. -/
namespace Go.Proofs.YtgdpjpmjcpieiaaGreat
open Go
set_option linter.unusedVariables false
set_option linter.unusedSimpArgs false
set_option maxHeartbeats 0
def asksN (l : List Ou) : Nat := (l.filter (fun x => decide (x.ob.kind = 1) && decide (x.to = 255))).length
theorem asks_app (l l' : List Ou) : asksN (l ++ l') = asksN l + asksN l' := by simp [asksN, List.filter_append]
theorem asks_send (t : Tn) (to : Int) (o : Ob) (h : o.kind ≠ 1 ∨ to ≠ 255) : asksN (t.send to o).out = asksN t.out := by
  show asksN (t.out ++ [_]) = _
  rw [asks_app]
  have : asksN [(⟨to, { o with dest := t.r.dest }⟩ : Ou)] = 0 := by
    rcases h with h | h <;> simp [asksN, h]
  omega
theorem asks_ask (t : Tn) : asksN (t.ask 255).out = asksN t.out + 1 := by
  show asksN (t.out ++ [_]) = _
  rw [asks_app]; rfl
theorem adopt_null {xs : List Vw} {me : Int} (h : (adoptR xs me).2 = 0) : (adoptR xs me).1.null = false ∧ okH (adoptR xs me).1 = true ∧ (adoptR xs me).1.id = me := by
  unfold adoptR at h ⊢
  split
  · rename_i h1; rw [if_pos h1] at h; cases h
  · rename_i h1
    rw [if_neg h1] at h
    split
    · rename_i h2; rw [if_pos h2] at h; cases h
    · rename_i h2
      rw [if_neg h2] at h
      have h3 : okH (adoptT xs me) = true := errA_ok h
      simp only [h3, if_true]
      exact ⟨rfl, trivial, rfl⟩
theorem atO_ok {l : Lv} {d i : Int} (h : (atO l d i).2 = 0) : (atO l d i).1 = atH l d i ∧ okH (atH l d i) = true := by
  have h3 : okH (atH l d i) = true := errA_ok h
  exact ⟨by simp [atO, h3], h3⟩
/-- as it is to be at the end: who wants a way has one, or has asked; at most one asked, who had not -/
def WantsOk (t t' : Tn) : Prop := t'.e = 0 → ¬ (t'.r.want = true ∧ t'.r.own.null = true ∧ t'.r.asked = false) ∧ (asksN t'.out = 0 ∨ asksN t'.out = 1 ∧ t'.r.asked = true ∧ t.r.asked = false)
theorem seek_w (t : Tn) (h0 : asksN t.out = 0) : WantsOk t t.seek := by
  intro he
  unfold Tn.seek at he ⊢
  split
  · rename_i h
    have hn := (adopt_null h).1
    refine ⟨fun ⟨_, h2, _⟩ => ?_, .inl ?_⟩
    · have h2 : (adoptR t.r.vs t.r.me).1.null = true := h2
      rw [hn] at h2; cases h2
    · rw [Tn.tell, asks_send _ _ _ (.inl (by simp))]; exact h0
  · rename_i h
    rw [if_neg h] at he
    split
    · rename_i h7
      split
      · rename_i ha
        exact ⟨fun ⟨_, _, h3⟩ => (by rw [ha] at h3; cases h3), .inl h0⟩
      · rename_i ha
        refine ⟨fun ⟨_, _, h3⟩ => (by cases h3), .inr ⟨?_, rfl, by simpa using ha⟩⟩
        rw [asks_ask]
        show asksN t.out + 1 = 1
        omega
    · rename_i h7
      rw [if_neg h7] at he
      exact (h he).elim
theorem miss_w (t : Tn) (h0 : asksN t.out = 0) (hh : t.home = false) : WantsOk t t.miss := by
  intro he
  unfold Tn.miss at he ⊢
  split
  · rename_i h; rw [if_pos h] at he; exact seek_w t h0 he
  · rename_i h
    refine ⟨fun ⟨h1, h2, h3⟩ => h (by simp [h1, h2, h3, hh]), .inl h0⟩
theorem told_w (t : Tn) (h : Ht) (c : Int) : asksN (t.told h c).out = asksN t.out ∧ (t.told h c).r.asked = t.r.asked ∧ (t.told h c).home = t.home := by
  unfold Tn.told
  split
  · refine ⟨?_, rfl, rfl⟩
    rw [Tn.clear, asks_send _ _ _ (.inl (by simp))]
    show asksN (Tn.tell _ 255).out = _
    rw [Tn.tell, asks_send _ _ _ (.inl (by simp))]
  · refine ⟨?_, rfl, rfl⟩
    rw [Tn.tell, asks_send _ _ _ (.inl (by simp))]
theorem keep_w (t : Tn) (lost : Bool) (h0 : asksN t.out = 0) (hh : t.home = false) (hn : t.r.own.null = false) : WantsOk t (t.keep lost) := by
  intro he
  unfold Tn.keep at he ⊢
  rw [if_neg (by simp [hh, hn])] at he ⊢
  split
  · rename_i h; rw [if_pos h] at he; exact (h he).elim
  · rename_i h
    rw [if_neg h] at he
    split
    · exact ⟨fun ⟨_, h2, _⟩ => (by rw [hn] at h2; cases h2), .inl h0⟩
    · rename_i h1
      rw [if_neg h1] at he
      obtain ⟨g1, g2, g3⟩ := told_w t (caseV t.r.own t.r.vs t.now lost).1 (caseV t.r.own t.r.vs t.now lost).2.1
      have := miss_w _ (g1.trans h0) (g3.trans hh) he
      rw [g2] at this; exact this
theorem lose_w (t : Tn) (h0 : asksN t.out = 0) (hh : t.home = false) : WantsOk t t.lose := by
  unfold Tn.lose
  split
  · exact miss_w t h0 hh
  · rename_i h; exact keep_w t true h0 hh (by simpa using h)
theorem clears_asks (l : Lv) : ∀ (ids : List Int) (t : Tn), asksN (t.clears ids l).out = asksN t.out
  | [], t => rfl
  | x :: r, t => by
    have h3 : t.clears (x :: r) l = (t.clear x l).clears r l := rfl
    rw [h3, clears_asks l r, Tn.clear, asks_send _ _ _ (.inl (by simp))]
/-- a route that is right, and who wants has asked -/
structure Fair (t : Tn) : Prop where
  asks : asksN t.out = 0
  away : t.home = false
  idle : t.r.own.null = false → t.r.asked = false
  has : ¬ (t.r.want = true ∧ t.r.own.null = true ∧ t.r.asked = false)
theorem upd_w (t : Tn) (hf : Fair t) (src : Int) (h : Ht) : WantsOk t (t.upd src h) := by
  intro he
  unfold Tn.upd at he ⊢
  have hh : (t.set src h).home = false := hf.away
  split
  · rename_i h1
    rw [if_pos h1] at he
    rcases h1 with h1 | h1
    · exact (h1 he).elim
    · rw [hf.away] at h1; cases h1
  · rename_i h1
    rw [if_neg h1] at he
    split
    · rename_i h2; rw [if_pos h2] at he; exact keep_w (t.set src h) false hf.asks hh h2 he
    · rename_i h2
      rw [if_neg h2] at he
      split
      · rename_i h3; rw [if_pos h3] at he; exact seek_w (t.set src h) hf.asks he
      · rename_i h3; rw [if_neg h3] at he; exact miss_w (t.set src h) hf.asks hh he
theorem hear_w (t : Tn) (hf : Fair t) (src : Int) (o : Ob) (ho : okO o = true) (hs : src ≠ 255) : WantsOk t (t.hear src o) := by
  unfold Tn.hear
  split
  · intro he
    unfold Tn.qry at he ⊢
    split
    · rename_i h1
      rw [if_pos h1] at he
      split
      · exact ⟨hf.has, .inl hf.asks⟩
      · rename_i h2; rw [if_neg h2] at he; exact seek_w t hf.asks he
    · rename_i h1
      refine ⟨hf.has, .inl ?_⟩
      rw [Tn.tell, asks_send _ _ _ (.inl (by simp))]; exact hf.asks
  · split
    · exact upd_w t hf src o.h
    · split
      · intro he
        unfold Tn.clr at he ⊢
        split
        · rename_i h1
          rw [if_pos h1] at he
          have hn : t.r.own.null = false := by simp only [Bool.and_eq_true, Bool.not_eq_true'] at h1; exact h1.1.2
          have := miss_w (({ t.forget o.l with r := { (t.forget o.l).r with own := nullH t.r.me } } : Tn).clear 255 o.l) (by rw [Tn.clear, asks_send _ _ _ (.inl (by simp))]; exact hf.asks) hf.away he
          exact this
        · rename_i h1
          rw [if_neg h1] at he
          have h2 := clears_asks o.l (goneV t.r.vs o.l t.r.dest) (t.forget o.l)
          have h3 := (clears_len o.l (goneV t.r.vs o.l t.r.dest) (t.forget o.l)).2
          have h4 : ((t.forget o.l).clears (goneV t.r.vs o.l t.r.dest) o.l).home = false := by rw [Tn.home, h3]; exact hf.away
          have := lose_w _ (h2.trans hf.asks) h4 he
          rw [h3] at this; exact this
      · intro he
        unfold Tn.opt at he ⊢
        split
        · rename_i h1; rw [if_pos h1] at he; exact upd_w t hf src o.h he
        · rename_i h1
          rw [if_neg h1] at he
          split
          · rename_i h2; rw [if_pos h2] at he; exact (h2 he).elim
          · rename_i h2
            have h5 : (atO (lvlH o.h) (o.h.delta + 1) t.r.me).1.null = false := by rw [(atO_ok (by simpa using h2)).1]; rfl
            refine ⟨fun ⟨_, h3, _⟩ => ?_, .inl ?_⟩
            · have h3 : (atO (lvlH o.h) (o.h.delta + 1) t.r.me).1.null = true := h3
              rw [h5] at h3; cases h3
            · rw [Tn.refresh, asks_send _ _ _ (.inl (by simp))]; exact hf.asks
theorem runV_ok {r : Rt} {now chk : Int} {t : Tn} (h : (runV r now chk t).2.2 = 0) : okR r = true ∧ timeB now = true ∧ chk = 0 ∧ t.e = 0 ∧ runV r now chk t = (t.r, t.out, 0) := by
  unfold runV at h ⊢
  split
  · rename_i h1; rw [if_pos h1] at h; cases h
  · rename_i h1
    rw [if_neg h1] at h
    simp only [Bool.or_eq_true, Bool.not_eq_true', not_or, Bool.not_eq_false] at h1
    split
    · rename_i h2; rw [if_pos h2] at h; exact (h2 h).elim
    · rename_i h2
      rw [if_neg h2] at h
      split
      · rename_i h3; rw [if_pos h3] at h; exact (h3 h).elim
      · rename_i h3
        exact ⟨h1.1, h1.2, by simpa using h2, by simpa using h3, rfl⟩
theorem okR_parts {r : Rt} (h : okR r = true) : nodeB r.me = true ∧ nodeB r.dest = true ∧ r.own.id = r.me ∧ getV r.vs r.me = none ∧ okH r.own = true ∧ okVs r.vs = true ∧ (r.asked = true → r.own.null = true) ∧ (0 ≤ r.last ∧ r.last ≤ 65535 ∧ (r.heard = true ∨ r.last ≤ 0)) ∧ (r.me = r.dest → r.own = zeroH r.me) := by
  simp only [okR, Bool.and_eq_true, Bool.not_eq_true', Bool.or_eq_true, decide_eq_true_eq, Bool.and_eq_false_iff, decide_eq_false_iff_not, Option.isSome_eq_false_iff, Option.isNone_iff_eq_none, Bool.not_eq_false'] at h
  obtain ⟨⟨⟨⟨⟨⟨⟨⟨h1, h2⟩, h3⟩, h4⟩, h5⟩, h6⟩, h7⟩, ⟨h8, h9⟩, h10⟩, h11⟩ := h
  refine ⟨h1, h2, h3, h4, h5, h6, fun h => ?_, ⟨h8, h9, h10⟩, fun h => h11.resolve_left (fun hn => hn h)⟩
  rcases h7 with h7 | h7
  · rw [h] at h7; cases h7
  · exact h7
theorem view_node {xs : List Vw} {id : Int} (h : okVs xs = true) (hs : (getV xs id).isSome = true) : 0 ≤ id ∧ id < 64 := by
  obtain ⟨x, hx, rfl⟩ := getV_some.1 hs
  have := (okVs_pw.1 h).1 x hx
  simp only [okV, decide_eq_true_eq] at this
  exact ⟨this.1, this.2.1⟩
/-- CoreWants, plainly -/
theorem step_wants (r : Rt) (o : Opn) (he : (stepA r o).2.2 = 0) (hh : r.me ≠ r.dest) (hw : ¬ (r.want = true ∧ r.own.null = true ∧ r.asked = false)) :
    ¬ ((stepA r o).1.want = true ∧ (stepA r o).1.own.null = true ∧ (stepA r o).1.asked = false) ∧ (asksN (stepA r o).2.1 = 0 ∨ asksN (stepA r o).2.1 = 1 ∧ (stepA r o).1.asked = true ∧ r.asked = false) := by
  have key : ∀ {now chk : Int} {t' : Tn}, (runV r now chk t').2.2 = 0 → (okR r = true → chk = 0 → WantsOk (t0 r now) t') → ¬ ((runV r now chk t').1.want = true ∧ (runV r now chk t').1.own.null = true ∧ (runV r now chk t').1.asked = false) ∧ (asksN (runV r now chk t').2.1 = 0 ∨ asksN (runV r now chk t').2.1 = 1 ∧ (runV r now chk t').1.asked = true ∧ r.asked = false) := by
    intro now chk t' he hW
    obtain ⟨h1, _, h2, h3, h4⟩ := runV_ok he
    rw [h4]
    exact hW h1 h2 h3
  have fair : ∀ now, okR r = true → Fair (t0 r now) := fun now hr => ⟨rfl, by simp [Tn.home, t0, hh], fun hn => by
    cases ha : r.asked with
    | false => exact ha
    | true => have := (okR_parts hr).2.2.2.2.2.2.1 ha; have hn : r.own.null = false := hn; (rw [this] at hn; cases hn), hw⟩
  unfold stepA at he ⊢
  split
  · rename_i c; rw [if_pos c] at he
    refine key he fun hr hc he2 => ⟨?_, .inl ?_⟩
    · unfold Tn.up Tn.up1; repeat' split
      all_goals exact hw
    · have hid : o.id ≠ 255 := by
        unfold upC at hc
        split at hc
        · cases hc
        · rename_i h; simp [nodeB] at h; omega
      unfold Tn.up Tn.up1
      repeat' split
      all_goals (try simp only [Tn.ask, Tn.tell, asks_send _ _ _ (Or.inr hid)])
      all_goals rfl
  · rename_i c; rw [if_neg c] at he
    split
    · rename_i c; rw [if_pos c] at he
      exact key he fun hr hc => lose_w ((t0 r o.now).drop o.id) rfl (fair o.now hr).away
    · rename_i c; rw [if_neg c] at he
      split
      · rename_i c; rw [if_pos c] at he
        refine key he fun hr hc => hear_w (t0 r o.now) (fair o.now hr) o.id o.ob (hearC_ok hc).1 ?_
        have := view_node (okR_parts hr).2.2.2.2.2.1 (hearC_ok hc).2.2.1
        omega
      · rename_i c; rw [if_neg c] at he
        split
        · rename_i c; rw [if_pos c] at he
          exact key he fun hr hc => miss_w _ rfl (fair 0 hr).away
        · rename_i c; rw [if_neg c] at he
          split
          · rename_i c; rw [if_pos c] at he
            exact key he fun hr hc he2 => ⟨fun h => (by cases h.1), .inl rfl⟩
          · rename_i c; rw [if_neg c] at he
            refine key he fun hr hc => ?_
            unfold refC at hc
            split at hc
            · cases hc
            · rename_i h; exact (h (by simp [hh])).elim
end Go.Proofs.YtgdpjpmjcpieiaaGreat

/- Everyone is told, plainly. No condition. -/
namespace Go.Proofs.YtgdpjpmjcpieiaaGreat
open Go
set_option linter.unusedVariables false
set_option linter.unusedSimpArgs false
set_option maxHeartbeats 0
def lastT (me : Int) (h : Ht) (x : Ou) : Ht := if x.to = 255 then (if x.ob.kind = 2 ∨ x.ob.kind = 4 then x.ob.h else if x.ob.kind = 3 then nullH me else h) else h
def toldBy (me : Int) (h : Ht) (l : List Ou) : Ht := l.foldl (lastT me) h
theorem toldBy_snoc (me : Int) (h : Ht) (l : List Ou) (x : Ou) : toldBy me h (l ++ [x]) = lastT me (toldBy me h l) x := by simp [toldBy, List.foldl_append]
/-- everyone was told the height that there is -/
def LOk (h0 : Ht) (t : Tn) : Prop := toldBy t.r.me h0 t.out = t.r.own
theorem LOk.send {h0 : Ht} {t : Tn} (h : LOk h0 t) (to : Int) (o : Ob) (ho : to ≠ 255 ∨ o.kind = 1) : LOk h0 (t.send to o) := by
  show toldBy t.r.me h0 (t.out ++ [_]) = t.r.own
  rw [toldBy_snoc]
  unfold lastT
  rcases ho with ho | ho
  · rw [if_neg ho]; exact h
  · split
    · rw [if_neg (by simp [ho]), if_neg (by simp [ho])]; exact h
    · exact h
theorem tell_l (h0 : Ht) (t : Tn) : LOk h0 (t.tell 255) := by
  show toldBy t.r.me h0 (t.out ++ [_]) = t.r.own
  rw [toldBy_snoc]; rfl
theorem refresh_l (h0 : Ht) (t : Tn) (k : Int) : LOk h0 (t.refresh k) := by
  show toldBy t.r.me h0 (t.out ++ [_]) = t.r.own
  rw [toldBy_snoc]; rfl
theorem clear_l (h0 : Ht) (t : Tn) (l : Lv) (h : t.r.own = nullH t.r.me) : LOk h0 (t.clear 255 l) := by
  show toldBy t.r.me h0 (t.out ++ [_]) = t.r.own
  rw [toldBy_snoc, h]; rfl
theorem seek_l {h0 : Ht} {t : Tn} (h : LOk h0 t) : LOk h0 t.seek := by
  unfold Tn.seek
  split
  · exact tell_l h0 _
  · split
    · split
      · exact h
      · exact LOk.send (t := { t with r := { t.r with asked := true } }) h 255 _ (.inr rfl)
    · exact h
theorem miss_l {h0 : Ht} {t : Tn} (h : LOk h0 t) : LOk h0 t.miss := by
  unfold Tn.miss
  split
  · exact seek_l h
  · exact h
theorem keep_l {h0 : Ht} {t : Tn} (lost : Bool) (hid : t.r.own.id = t.r.me) (h : LOk h0 t) : LOk h0 (t.keep lost) := by
  unfold Tn.keep
  split
  · exact h
  · split
    · exact h
    · rename_i he
      split
      · exact h
      · refine miss_l ?_
        unfold Tn.told
        split
        · rename_i h4
          obtain ⟨_, h5, _⟩ := detect_one (by simpa using he) h4
          exact clear_l h0 _ _ (by show (caseV t.r.own t.r.vs t.now lost).1 = nullH t.r.me; rw [h5, hid])
        · exact tell_l h0 _
theorem lose_l {h0 : Ht} {t : Tn} (hid : t.r.own.id = t.r.me) (h : LOk h0 t) : LOk h0 t.lose := by
  unfold Tn.lose
  split
  · exact miss_l h
  · exact keep_l true hid h
theorem upd_l {h0 : Ht} {t : Tn} (src : Int) (hh : Ht) (hid : t.r.own.id = t.r.me) (h : LOk h0 t) : LOk h0 (t.upd src hh) := by
  have h1 : LOk h0 (t.set src hh) := h
  unfold Tn.upd
  split
  · exact h1
  · split
    · exact keep_l (t := t.set src hh) false hid h1
    · split
      · exact seek_l h1
      · exact miss_l h1
theorem clears_l {h0 : Ht} (l : Lv) : ∀ (ids : List Int) (t : Tn), (∀ i ∈ ids, i ≠ 255) → LOk h0 t → LOk h0 (t.clears ids l)
  | [], t, _, h => h
  | x :: r, t, hi, h => clears_l l r (t.clear x l) (fun i hr => hi i (List.mem_cons_of_mem _ hr)) (h.send x _ (.inl (hi x (List.mem_cons_self ..))))
theorem gone_node {xs : List Vw} (h : okVs xs = true) (v : Lv) (keep : Int) : ∀ i ∈ goneV xs v keep, i ≠ 255 := by
  intro i hi
  simp only [goneV, List.mem_map, List.mem_filter] at hi
  obtain ⟨x, ⟨hx, _⟩, rfl⟩ := hi
  have := (okVs_pw.1 h).1 x hx
  simp only [okV, decide_eq_true_eq] at this
  omega
theorem hear_l {h0 : Ht} {t : Tn} (src : Int) (o : Ob) (hv : okVs t.r.vs = true) (hs : src ≠ 255) (hid : t.r.own.id = t.r.me) (h : LOk h0 t) : LOk h0 (t.hear src o) := by
  unfold Tn.hear
  split
  · unfold Tn.qry
    split
    · split
      · exact h
      · exact seek_l h
    · exact h.send src _ (.inl hs)
  · split
    · exact upd_l src o.h hid h
    · split
      · unfold Tn.clr
        split
        · exact miss_l (clear_l h0 _ _ rfl)
        · refine lose_l ?_ (clears_l o.l _ (t.forget o.l) (gone_node hv _ _) h)
          have h3 := (clears_len o.l (goneV t.r.vs o.l t.r.dest) (t.forget o.l)).2
          rw [h3]; exact hid
      · unfold Tn.opt
        split
        · exact upd_l src o.h hid h
        · split
          · exact h
          · exact refresh_l h0 _ _
/-- whose route it is, and to where -/
def SameId (t t' : Tn) : Prop := t'.r.me = t.r.me ∧ t'.r.dest = t.r.dest
theorem seek_id (t : Tn) : SameId t t.seek := by
  unfold Tn.seek
  repeat' split
  all_goals exact ⟨rfl, rfl⟩
theorem miss_id (t : Tn) : SameId t t.miss := by
  unfold Tn.miss
  split
  · exact seek_id t
  · exact ⟨rfl, rfl⟩
theorem told_id (t : Tn) (h : Ht) (c : Int) : SameId t (t.told h c) := by
  unfold Tn.told
  split <;> exact ⟨rfl, rfl⟩
theorem keep_id (t : Tn) (lost : Bool) : SameId t (t.keep lost) := by
  unfold Tn.keep
  repeat' split
  · exact ⟨rfl, rfl⟩
  · exact ⟨rfl, rfl⟩
  · exact ⟨rfl, rfl⟩
  · exact ⟨(miss_id _).1.trans (told_id t _ _).1, (miss_id _).2.trans (told_id t _ _).2⟩
theorem lose_id (t : Tn) : SameId t t.lose := by
  unfold Tn.lose
  split
  · exact miss_id t
  · exact keep_id t true
theorem upd_id (t : Tn) (src : Int) (h : Ht) : SameId t (t.upd src h) := by
  unfold Tn.upd
  repeat' split
  · exact ⟨rfl, rfl⟩
  · exact keep_id (t.set src h) false
  · exact seek_id (t.set src h)
  · exact miss_id (t.set src h)
theorem hear_id (t : Tn) (src : Int) (o : Ob) : SameId t (t.hear src o) := by
  unfold Tn.hear
  split
  · unfold Tn.qry
    repeat' split
    · exact ⟨rfl, rfl⟩
    · exact seek_id t
    · exact ⟨rfl, rfl⟩
  · split
    · exact upd_id t src o.h
    · split
      · unfold Tn.clr
        split
        · exact miss_id _
        · have h3 := (clears_len o.l (goneV t.r.vs o.l t.r.dest) (t.forget o.l)).2
          have h4 := lose_id ((t.forget o.l).clears (goneV t.r.vs o.l t.r.dest) o.l)
          unfold SameId at h4 ⊢
          rw [h3] at h4; exact h4
      · unfold Tn.opt
        repeat' split
        · exact upd_id t src o.h
        · exact ⟨rfl, rfl⟩
        · exact ⟨rfl, rfl⟩
theorem up_id (t : Tn) (id : Int) : SameId t (t.up id) := by
  unfold Tn.up Tn.up1
  repeat' split
  all_goals exact ⟨rfl, rfl⟩
/-- CoreTells, plainly -/
theorem step_tells (r : Rt) (o : Opn) (he : (stepA r o).2.2 = 0) : toldBy r.me r.own (stepA r o).2.1 = (stepA r o).1.own := by
  have key : ∀ {now chk : Int} {t' : Tn}, (runV r now chk t').2.2 = 0 → (okR r = true → chk = 0 → LOk r.own t' ∧ t'.r.me = r.me) → toldBy r.me r.own (runV r now chk t').2.1 = (runV r now chk t').1.own := by
    intro now chk t' he hW
    obtain ⟨h1, _, h2, h3, h4⟩ := runV_ok he
    rw [h4]
    obtain ⟨h5, h6⟩ := hW h1 h2
    have h5 : toldBy t'.r.me r.own t'.out = t'.r.own := h5
    rw [h6] at h5; exact h5
  have hL0 : ∀ now, LOk r.own (t0 r now) := fun now => rfl
  have hid : okR r = true → r.own.id = r.me := fun h => (okR_parts h).2.2.1
  unfold stepA at he ⊢
  split
  · rename_i c; rw [if_pos c] at he
    refine key he fun hr hc => ⟨?_, (up_id _ _).1⟩
    have hi : o.id ≠ 255 := by
      unfold upC at hc
      split at hc
      · cases hc
      · rename_i h; simp [nodeB] at h; omega
    have h1 : LOk r.own ((t0 r 0).set o.id (nullH o.id)) := hL0 0
    unfold Tn.up Tn.up1
    repeat' split
    · exact h1.send o.id _ (.inl hi)
    · exact (h1.send o.id _ (.inl hi)).send o.id _ (.inl hi)
    · exact h1
    · exact h1.send o.id _ (.inl hi)
  · rename_i c; rw [if_neg c] at he
    split
    · rename_i c; rw [if_pos c] at he
      exact key he fun hr hc => ⟨lose_l (t := (t0 r o.now).drop o.id) (hid hr) (hL0 o.now), (lose_id _).1⟩
    · rename_i c; rw [if_neg c] at he
      split
      · rename_i c; rw [if_pos c] at he
        refine key he fun hr hc => ⟨hear_l (t := t0 r o.now) o.id o.ob (okR_parts hr).2.2.2.2.2.1 ?_ (hid hr) (hL0 o.now), (hear_id _ _ _).1⟩
        have := view_node (okR_parts hr).2.2.2.2.2.1 (hearC_ok hc).2.2.1
        omega
      · rename_i c; rw [if_neg c] at he
        split
        · rename_i c; rw [if_pos c] at he
          exact key he fun hr hc => ⟨miss_l (t := { t0 r 0 with r := { r with want := true } }) (hL0 0), (miss_id _).1⟩
        · rename_i c; rw [if_neg c] at he
          split
          · rename_i c; rw [if_pos c] at he
            exact key he fun hr hc => ⟨hL0 0, rfl⟩
          · rename_i c; rw [if_neg c] at he
            exact key he fun hr hc => ⟨refresh_l _ _ _, rfl⟩
end Go.Proofs.YtgdpjpmjcpieiaaGreat

/- What comes out of a right route is right, plainly. No condition. -/
namespace Go.Proofs.YtgdpjpmjcpieiaaGreat
open Go
set_option linter.unusedVariables false
set_option linter.unusedSimpArgs false
set_option maxHeartbeats 0
theorem okV_iff {x : Vw} : okV x = true ↔ (0 ≤ x.id ∧ x.id < 64) ∧ x.h.id = x.id ∧ okH x.h = true := by
  simp only [okV, decide_eq_true_eq]
  exact ⟨fun ⟨a, b, c, d⟩ => ⟨⟨a, b⟩, c, d⟩, fun ⟨⟨a, b⟩, c, d⟩ => ⟨a, b, c, d⟩⟩
theorem okNull {i : Int} (h : 0 ≤ i ∧ i < 64) : okH (nullH i) = true := by simp [okH, nullH, h]
theorem okZ {i : Int} (h : 0 ≤ i ∧ i < 64) : okH (zeroH i) = true := by rw [okZero]; simp [h]
/-- the ids of a row of views, set -/
theorem set_ids {xs : List Vw} {id j : Int} {h : Ht} : (getV (setV xs id h) j).isSome = true ↔ j = id ∨ (getV xs j).isSome = true := by
  rw [getV_some, getV_some]
  unfold setV
  constructor
  · rintro ⟨x, hx, rfl⟩
    rcases List.mem_append.1 hx with hx | hx
    · exact .inr ⟨x, (List.mem_filter.1 hx).1, rfl⟩
    · rcases List.mem_cons.1 hx with rfl | hx
      · exact .inl rfl
      · exact .inr ⟨x, (List.mem_filter.1 hx).1, rfl⟩
  · rintro (rfl | ⟨x, hx, rfl⟩)
    · exact ⟨_, List.mem_append_right _ (List.mem_cons_self ..), rfl⟩
    · rcases Int.lt_trichotomy x.id id with h1 | h1 | h1
      · exact ⟨x, List.mem_append_left _ (List.mem_filter.2 ⟨hx, by simpa using h1⟩), rfl⟩
      · exact ⟨⟨id, h⟩, List.mem_append_right _ (List.mem_cons_self ..), h1.symm⟩
      · exact ⟨x, List.mem_append_right _ (List.mem_cons_of_mem _ (List.mem_filter.2 ⟨hx, by simpa using h1⟩)), rfl⟩
theorem set_ok {xs : List Vw} {id : Int} {h : Ht} (hx : okVs xs = true) (hv : okV ⟨id, h⟩ = true) : okVs (setV xs id h) = true := by
  obtain ⟨h1, h2⟩ := okVs_pw.1 hx
  rw [okVs_pw]
  unfold setV
  refine ⟨fun x hx => ?_, ?_⟩
  · rcases List.mem_append.1 hx with hx | hx
    · exact h1 x (List.mem_filter.1 hx).1
    · rcases List.mem_cons.1 hx with rfl | hx
      · exact hv
      · exact h1 x (List.mem_filter.1 hx).1
  · rw [List.pairwise_append]
    refine ⟨h2.sublist List.filter_sublist, List.pairwise_cons.2 ⟨fun y hy => by simpa using (List.mem_filter.1 hy).2, h2.sublist List.filter_sublist⟩, ?_⟩
    intro a ha b hb
    have ha := (List.mem_filter.1 ha).2
    simp only [decide_eq_true_eq] at ha
    rcases List.mem_cons.1 hb with rfl | hb
    · exact ha
    · have hb := (List.mem_filter.1 hb).2
      simp only [decide_eq_true_eq] at hb
      omega
theorem drop_ok {xs : List Vw} {id : Int} (hx : okVs xs = true) : okVs (dropV xs id) = true := by
  obtain ⟨h1, h2⟩ := okVs_pw.1 hx
  rw [okVs_pw]
  exact ⟨fun x hx => h1 x (List.mem_filter.1 hx).1, h2.sublist List.filter_sublist⟩
theorem drop_none {xs : List Vw} {id j : Int} (h : getV xs j = none) : getV (dropV xs id) j = none := by
  have h' : (getV xs j).isSome = false := by rw [h]; rfl
  have := getV_none.1 h'
  have h2 : (getV (dropV xs id) j).isSome = false := getV_none.2 fun x hx => this x (List.mem_filter.1 hx).1
  simpa using h2
theorem forg_id (keep : Int) (v : Lv) (x : Vw) : (forgH keep v x).id = x.id := by unfold forgH; split <;> rfl
theorem forg_ok {xs : List Vw} {v : Lv} {keep : Int} (hx : okVs xs = true) : okVs (forgetV xs v keep) = true := by
  obtain ⟨h1, h2⟩ := okVs_pw.1 hx
  rw [okVs_pw]
  unfold forgetV
  refine ⟨fun y hy => ?_, ?_⟩
  · obtain ⟨x, hx, rfl⟩ := List.mem_map.1 hy
    have h3 := okV_iff.1 (h1 x hx)
    unfold forgH
    split
    · rw [okV_iff]
      refine ⟨h3.1, h3.2.1, ?_⟩
      show okH (nullH x.h.id) = true
      rw [h3.2.1]; exact okNull h3.1
    · exact h1 x hx
  · rw [List.pairwise_map]
    exact h2.imp fun {a b} h => by rw [forg_id, forg_id]; exact h
theorem forg_ids {xs : List Vw} {v : Lv} {keep j : Int} : (getV (forgetV xs v keep) j).isSome = (getV xs j).isSome := by
  rw [Bool.eq_iff_iff, getV_some, getV_some]
  unfold forgetV
  constructor
  · rintro ⟨y, hy, rfl⟩
    obtain ⟨x, hx, rfl⟩ := List.mem_map.1 hy
    exact ⟨x, hx, (forg_id keep v x).symm⟩
  · rintro ⟨x, hx, rfl⟩
    exact ⟨_, List.mem_map.2 ⟨x, hx, rfl⟩, forg_id keep v x⟩
def okL (l : Lv) : Bool := okH ⟨false, l.tau, l.oid, l.r, 0, 0⟩
theorem okL_of {h : Ht} (hh : okH h = true) (hn : h.null = false) : okL (lvH h) = true := by
  simp only [okL, okH, lvH, decide_eq_true_eq] at hh ⊢
  obtain ⟨_, _, hh⟩ := hh
  rw [hn] at hh
  simp only [Bool.false_eq_true, if_false] at hh ⊢
  refine ⟨by omega, by omega, ?_⟩
  omega
theorem topL_ok {xs : List Vw} (h : levelsV xs ≠ []) : okL (topL xs) = true := by
  obtain ⟨x, _, ht, hl⟩ := level_mem.1 (topL_mem h)
  rw [← hl]
  simp only [toldH, Bool.and_eq_true, Bool.not_eq_true'] at ht
  exact okL_of ht.1 ht.2
/-- an object that goes out, to whom -/
def OutOk (r : Rt) (x : Ou) : Prop := okO x.ob = true ∧ x.ob.dest = r.dest ∧ ((getV r.vs x.to).isSome = true ∨ x.to = 255)
structure RI (t : Tn) : Prop where
  ok : okR t.r = true
  out : ∀ x ∈ t.out, OutOk t.r x
theorem okR_mk {r : Rt} (h1 : nodeB r.me = true) (h2 : nodeB r.dest = true) (h3 : r.own.id = r.me) (h4 : getV r.vs r.me = none) (h5 : okH r.own = true) (h6 : okVs r.vs = true) (h7 : r.asked = true → r.own.null = true) (h8 : 0 ≤ r.last ∧ r.last ≤ 65535 ∧ (r.heard = true ∨ r.last ≤ 0)) (h9 : r.me = r.dest → r.own = zeroH r.me) : okR r = true := by
  simp only [okR, Bool.and_eq_true, Bool.not_eq_true', Bool.or_eq_true, decide_eq_true_eq, Bool.and_eq_false_iff, decide_eq_false_iff_not, Bool.not_eq_false']
  refine ⟨⟨⟨⟨⟨⟨⟨⟨h1, h2⟩, h3⟩, by rw [h4]; rfl⟩, h5⟩, h6⟩, ?_⟩, ⟨h8.1, h8.2.1⟩, h8.2.2⟩, ?_⟩
  · cases ha : r.asked with
    | false => exact .inl rfl
    | true => exact .inr (h7 ha)
  · by_cases h : r.me = r.dest
    · exact .inr (h9 h)
    · exact .inl h
theorem node_iff {n : Int} : nodeB n = true ↔ 0 ≤ n ∧ n < 64 := by simp [nodeB]
theorem RI.send {t : Tn} (h : RI t) {to : Int} {o : Ob} (ho : okO { o with dest := t.r.dest } = true) (ht : (getV t.r.vs to).isSome = true ∨ to = 255) : RI (t.send to o) :=
  ⟨h.ok, fun x hx => by
    rcases List.mem_append.1 hx with hx | hx
    · exact h.out x hx
    · rw [List.mem_singleton.1 hx]; exact ⟨ho, rfl, ht⟩⟩
theorem okO_upd {d : Int} {h : Ht} (hd : nodeB d = true) (hh : okH h = true) : okO ⟨2, d, h, z0L, 0⟩ = true := by
  have := node_iff.1 hd
  simp [okO, z0L, hh, this]
theorem okO_qry {d : Int} (hd : nodeB d = true) : okO ⟨1, d, z0H, z0L, 0⟩ = true := by
  have := node_iff.1 hd
  simp [okO, z0L, z0H, this]
theorem okO_clr {d : Int} {l : Lv} (hd : nodeB d = true) (hl : okL l = true) : okO ⟨3, d, z0H, l, 0⟩ = true := by
  have := node_iff.1 hd
  have hl : okH ⟨false, l.tau, l.oid, l.r, 0, 0⟩ = true := hl
  simp [okO, z0H, hl, this]
theorem okO_opt {d k : Int} {h : Ht} (hd : nodeB d = true) (hh : okH h = true) (hn : h.null = false) (hk : 0 ≤ k ∧ k ≤ 65535) : okO ⟨4, d, h, z0L, k⟩ = true := by
  have := node_iff.1 hd
  simp [okO, z0L, hh, hn, hk, this]
end Go.Proofs.YtgdpjpmjcpieiaaGreat

/- What comes out of a right route is right, plainly: call by call. No condition. -/
namespace Go.Proofs.YtgdpjpmjcpieiaaGreat
open Go
set_option linter.unusedVariables false
set_option linter.unusedSimpArgs false
set_option maxHeartbeats 0
theorem case_ok {own : Ht} {xs : List Vw} {now : Int} {lost : Bool} (he : (caseV own xs now lost).2.2 = 0) : okH (caseV own xs now lost).1 = true ∧ (caseV own xs now lost).1.id = own.id := by
  obtain ⟨h1, h2⟩ := case_is (h := (caseV own xs now lost).1) (c := (caseV own xs now lost).2.1) (e := (caseV own xs now lost).2.2) rfl he
  have ho := (okCase_is h1).1
  have hn : 0 ≤ own.id ∧ own.id < 64 := by
    simp only [okH, decide_eq_true_eq] at ho; exact ⟨ho.1, ho.2.1⟩
  generalize (caseV own xs now lost).1 = h at h2 ⊢
  generalize (caseV own xs now lost).2.1 = c at h2
  cases h2 with
  | stay h _ _ => rw [h]; exact ⟨ho, rfl⟩
  | alone h _ _ => rw [h]; exact ⟨okNull hn, rfl⟩
  | gen h _ h3 _ _ _ => exact ⟨h3, by rw [h]; rfl⟩
  | prop h _ h3 _ _ _ => exact ⟨h3, by rw [h]; rfl⟩
  | refl h _ h3 _ _ _ _ => exact ⟨h3, by rw [h]; rfl⟩
  | detect h _ _ _ _ _ => rw [h]; exact ⟨okNull hn, rfl⟩
theorem RI.own {t : Tn} (h : RI t) (g : Ht) (a : Bool) (hg : okH g = true) (hid : g.id = t.r.me) (ha : a = true → g.null = true) (hh : t.home = false) : RI { t with r := { t.r with own := g, asked := a } } := by
  obtain ⟨h1, h2, h3, h4, h5, h6, h7, h8, h9⟩ := okR_parts h.ok
  exact ⟨okR_mk h1 h2 hid h4 hg h6 ha h8 (fun e => absurd e (by simpa [Tn.home] using hh)), h.out⟩
theorem null_away {t : Tn} (h : RI t) (hn : t.r.own.null = true) : t.home = false := by
  cases hq : t.home with
  | false => rfl
  | true =>
    have := (okR_parts h.ok).2.2.2.2.2.2.2.2 (by simpa [Tn.home] using hq)
    rw [this] at hn; cases hn
theorem seek_ri {t : Tn} (h : RI t) (hn : t.r.own.null = true) : RI t.seek := by
  have hh := null_away h hn
  have hd := (okR_parts h.ok).2.1
  unfold Tn.seek
  split
  · rename_i h0
    obtain ⟨g1, g2, g3⟩ := adopt_null h0
    exact (h.own _ false g2 g3 (by simp) hh).send (okO_upd hd g2) (.inr rfl)
  · split
    · split
      · exact h
      · exact (h.own t.r.own true (okR_parts h.ok).2.2.2.2.1 (okR_parts h.ok).2.2.1 (fun _ => hn) hh).send (okO_qry hd) (.inr rfl)
    · exact ⟨h.ok, h.out⟩
theorem miss_ri {t : Tn} (h : RI t) : RI t.miss := by
  unfold Tn.miss
  split
  · rename_i hc
    simp only [Bool.and_eq_true] at hc
    exact seek_ri h hc.1.1.1
  · exact h
theorem RI.forget {t : Tn} (h : RI t) (l : Lv) : RI (t.forget l) := by
  obtain ⟨h1, h2, h3, h4, h5, h6, h7, h8, h9⟩ := okR_parts h.ok
  refine ⟨okR_mk h1 h2 h3 ?_ h5 (forg_ok h6) h7 h8 h9, fun x hx => ?_⟩
  · have : (getV (forgetV t.r.vs l t.r.dest) t.r.me).isSome = false := by rw [forg_ids, h4]; rfl
    show getV (forgetV t.r.vs l t.r.dest) t.r.me = none
    simpa using this
  · obtain ⟨g1, g2, g3⟩ := h.out x hx
    refine ⟨g1, g2, ?_⟩
    show (getV (forgetV t.r.vs l t.r.dest) x.to).isSome = true ∨ _
    rw [forg_ids]; exact g3
theorem told_ri {t : Tn} (h : RI t) (g : Ht) (c : Int) (hg : okH g = true) (hid : g.id = t.r.me) (hn : t.r.own.null = false) (hh : t.home = false) (h4 : c = 4 → levelsV t.r.vs = [topL t.r.vs]) : RI (t.told g c) := by
  have hd := (okR_parts h.ok).2.1
  have ha : t.r.asked = false := by
    cases hq : t.r.asked with
    | false => rfl
    | true => have := (okR_parts h.ok).2.2.2.2.2.2.1 hq; rw [hn] at this; cases this
  have h1 : RI ({ t with r := { t.r with own := g } } : Tn) := h.own g t.r.asked hg hid (by rw [ha]; simp) hh
  have h2 := h1.send (to := 255) (o := ⟨2, 0, g, z0L, 0⟩) (okO_upd hd hg) (.inr rfl)
  unfold Tn.told
  split
  · rename_i hc
    have hl := h4 hc
    have hhd : (levelsV t.r.vs).headD z0L = topL t.r.vs := by rw [hl]; rfl
    rw [hhd]
    exact (h2.forget _).send (okO_clr hd (topL_ok (by rw [hl]; simp))) (.inr rfl)
  · exact h2
theorem keep_ri {t : Tn} (h : RI t) (lost : Bool) : RI (t.keep lost) := by
  unfold Tn.keep
  split
  · exact h
  · rename_i h0
    simp only [Bool.or_eq_true, not_or, Bool.not_eq_true] at h0
    split
    · exact ⟨h.ok, h.out⟩
    · rename_i he
      split
      · exact h
      · have he : (caseV t.r.own t.r.vs t.now lost).2.2 = 0 := by simpa using he
        obtain ⟨g1, g2⟩ := case_ok he
        exact miss_ri (told_ri h _ _ g1 (g2.trans (okR_parts h.ok).2.2.1) h0.2 h0.1 fun hc => (detect_one he hc).1)
theorem lose_ri {t : Tn} (h : RI t) : RI t.lose := by
  unfold Tn.lose
  split
  · exact miss_ri h
  · exact keep_ri h true
theorem set_ri {t : Tn} (h : RI t) (ho : t.out = []) (id : Int) (hh : Ht) (hne : id ≠ t.r.me) : RI (t.set id hh) := by
  obtain ⟨h1, h2, h3, h4, h5, h6, h7, h8, h9⟩ := okR_parts h.ok
  refine ⟨okR_mk h1 h2 h3 ?_ h5 ?_ h7 h8 h9, fun x hx => by have hx : x ∈ t.out := hx; rw [ho] at hx; cases hx⟩
  · show getV (if okSet t id hh = true then setV t.r.vs id hh else []) t.r.me = none
    split
    · have : (getV (setV t.r.vs id hh) t.r.me).isSome = false := by
        rw [← Bool.not_eq_true, set_ids, h4]
        simp; exact fun e => hne e.symm
      simpa using this
    · rfl
  · show okVs (if okSet t id hh = true then setV t.r.vs id hh else []) = true
    split
    · rename_i hs
      simp only [okSet, Bool.and_eq_true] at hs
      exact set_ok hs.1 hs.2
    · rfl
theorem upd_ri {t : Tn} (h : RI t) (ho : t.out = []) (src : Int) (hh : Ht) (hne : src ≠ t.r.me) : RI (t.upd src hh) := by
  have h1 := set_ri h ho src hh hne
  unfold Tn.upd
  split
  · exact h1
  · split
    · exact keep_ri h1 false
    · rename_i hn
      split
      · exact seek_ri h1 (show t.r.own.null = true by simpa using hn)
      · exact miss_ri h1
theorem clears_ri {l : Lv} (hl : okL l = true) : ∀ (ids : List Int) (t : Tn), RI t → (∀ i ∈ ids, (getV t.r.vs i).isSome = true) → RI (t.clears ids l)
  | [], t, h, _ => h
  | x :: r, t, h, hi => clears_ri hl r (t.clear x l) (h.send (okO_clr (okR_parts h.ok).2.1 hl) (.inl (hi x (List.mem_cons_self ..)))) (fun i hr => hi i (List.mem_cons_of_mem _ hr))
theorem gone_some {xs : List Vw} {v : Lv} {keep : Int} : ∀ i ∈ goneV xs v keep, (getV xs i).isSome = true := by
  intro i hi
  simp only [goneV, List.mem_map, List.mem_filter] at hi
  obtain ⟨x, ⟨hx, _⟩, rfl⟩ := hi
  exact getV_some.2 ⟨x, hx, rfl⟩
theorem okO_parts {o : Ob} (h : okO o = true) : (o.kind = 3 → okL o.l = true) ∧ (o.kind = 4 → (0 ≤ o.num ∧ o.num ≤ 65535) ∧ okH o.h = true ∧ o.h.null = false) := by
  simp only [okO, decide_eq_true_eq] at h
  obtain ⟨_, _, h⟩ := h
  rcases h with h | h | h | h
  · exact ⟨fun e => by omega, fun e => by omega⟩
  · exact ⟨fun e => by omega, fun e => by omega⟩
  · exact ⟨fun e => h.2.2.2, fun e => by omega⟩
  · exact ⟨fun e => by omega, fun e => ⟨⟨h.2.2.1, h.2.2.2.1⟩, h.2.2.2.2⟩⟩
theorem hear_ri {t : Tn} (h : RI t) (ho : t.out = []) (src : Int) (o : Ob) (hk : okO o = true) (hs : (getV t.r.vs src).isSome = true) : RI (t.hear src o) := by
  have hd := (okR_parts h.ok).2.1
  have hne : src ≠ t.r.me := fun e => by rw [e, (okR_parts h.ok).2.2.2.1] at hs; cases hs
  unfold Tn.hear
  split
  · unfold Tn.qry
    split
    · rename_i hn
      split
      · exact h
      · exact seek_ri h hn
    · exact h.send (okO_upd hd (okR_parts h.ok).2.2.2.2.1) (.inl hs)
  · split
    · exact upd_ri h ho src o.h hne
    · split
      · rename_i h3
        have hl := (okO_parts hk).1 h3
        unfold Tn.clr
        split
        · rename_i hc
          simp only [Bool.and_eq_true, Bool.not_eq_true'] at hc
          have hf := h.forget o.l
          have hme := node_iff.1 (okR_parts h.ok).1
          have ha : t.r.asked = true → (nullH t.r.me).null = true := fun _ => rfl
          exact miss_ri ((hf.own (nullH t.r.me) t.r.asked (okNull hme) rfl ha hc.1.1).send (okO_clr hd hl) (.inr rfl))
        · exact lose_ri (clears_ri hl _ _ (h.forget o.l) fun i hi => by
            show (getV (forgetV t.r.vs o.l t.r.dest) i).isSome = true
            rw [forg_ids]; exact gone_some i hi)
      · rename_i k1 k2 k3
        have h4 := (okO_parts hk).2 (by have := (okO_kind hk).1; omega)
        unfold Tn.opt
        split
        · exact upd_ri h ho src o.h hne
        · rename_i hc
          have h1 := set_ri h ho src o.h hne
          split
          · exact ⟨h1.ok, h1.out⟩
          · rename_i he
            simp only [Bool.or_eq_true, not_or, Bool.not_eq_true] at hc
            obtain ⟨g1, g2⟩ := atO_ok (by simpa using he : (atO (lvlH o.h) (o.h.delta + 1) t.r.me).2 = 0)
            have h5 : RI ({ t.set src o.h with r := { (t.set src o.h).r with own := (atO (lvlH o.h) (o.h.delta + 1) t.r.me).1, asked := false } } : Tn) :=
              h1.own _ false (by rw [g1]; exact g2) (by rw [g1]; rfl) (by simp) hc.1
            obtain ⟨j1, j2, j3, j4, j5, j6, j7, j8, j9⟩ := okR_parts h5.ok
            have h6 : RI ({ t.set src o.h with r := { (t.set src o.h).r with own := (atO (lvlH o.h) (o.h.delta + 1) t.r.me).1, asked := false, heard := true, last := o.num } } : Tn) :=
              ⟨okR_mk j1 j2 j3 j4 j5 j6 j7 ⟨h4.1.1, h4.1.2, .inl rfl⟩ j9, h5.out⟩
            exact h6.send (okO_opt hd (by rw [g1]; exact g2) (by rw [g1]; rfl) h4.1) (.inr rfl)
theorem up_ri {t : Tn} (h : RI t) (ho : t.out = []) (id : Int) (hid : nodeB id = true) (hne : id ≠ t.r.me) : RI (t.up id) := by
  have hd := (okR_parts h.ok).2.1
  have h1 := set_ri h ho id (nullH id) hne
  have hv : okV ⟨id, nullH id⟩ = true := okV_iff.2 ⟨node_iff.1 hid, rfl, okNull (node_iff.1 hid)⟩
  have hs : okSet t id (nullH id) = true := by simp [okSet, hv, (okR_parts h.ok).2.2.2.2.2.1]
  have hi : (getV (t.set id (nullH id)).r.vs id).isSome = true := by
    show (getV (if okSet t id (nullH id) = true then setV t.r.vs id (nullH id) else []) id).isSome = true
    rw [if_pos hs, set_ids]; exact .inl rfl
  have h2 : RI ((t.set id (nullH id)).tell id) := h1.send (okO_upd hd (okR_parts h.ok).2.2.2.2.1) (.inl hi)
  unfold Tn.up Tn.up1
  repeat' split
  · exact h1.send (okO_qry hd) (.inl hi)
  · exact h2.send (okO_qry hd) (.inl hi)
  · exact h1
  · exact h2
theorem drop_ri {t : Tn} (h : RI t) (ho : t.out = []) (id : Int) : RI (t.drop id) := by
  obtain ⟨h1, h2, h3, h4, h5, h6, h7, h8, h9⟩ := okR_parts h.ok
  refine ⟨okR_mk h1 h2 h3 ?_ h5 ?_ h7 h8 h9, fun x hx => by have hx : x ∈ t.out := hx; rw [ho] at hx; cases hx⟩
  · show getV (if dropE t.r.vs id = 0 then dropV t.r.vs id else []) t.r.me = none
    split
    · exact drop_none h4
    · rfl
  · show okVs (if dropE t.r.vs id = 0 then dropV t.r.vs id else []) = true
    split
    · exact drop_ok h6
    · rfl
theorem want_ri {t : Tn} (h : RI t) (b : Bool) : RI { t with r := { t.r with want := b } } := by
  obtain ⟨h1, h2, h3, h4, h5, h6, h7, h8, h9⟩ := okR_parts h.ok
  exact ⟨okR_mk h1 h2 h3 h4 h5 h6 h7 h8 h9, h.out⟩
theorem refresh_ri {t : Tn} (h : RI t) (k : Int) (hk : 0 ≤ k ∧ k ≤ 65535) (hh : t.r.me = t.r.dest) : RI (t.refresh k) := by
  obtain ⟨h1, h2, h3, h4, h5, h6, h7, h8, h9⟩ := okR_parts h.ok
  have hz := h9 hh
  have hr : RI ({ t with r := { t.r with heard := true, last := k } } : Tn) := ⟨okR_mk h1 h2 h3 h4 h5 h6 h7 ⟨hk.1, hk.2, .inl rfl⟩ h9, h.out⟩
  exact hr.send (okO_opt h2 h5 (by rw [hz]; rfl) hk) (.inr rfl)
theorem runV_bad {r : Rt} {now chk : Int} {t : Tn} (h : (runV r now chk t).2.2 ≠ 0) : (runV r now chk t).2.1 = [] ∧ (runV r now chk t).1 = z0R := by
  unfold runV at h ⊢
  split
  · exact ⟨rfl, rfl⟩
  · rename_i h1
    rw [if_neg h1] at h
    split
    · exact ⟨rfl, rfl⟩
    · rename_i h2
      rw [if_neg h2] at h
      split
      · exact ⟨rfl, rfl⟩
      · rename_i h3
        rw [if_neg h3] at h
        exact (h rfl).elim
theorem step_bad (r : Rt) (o : Opn) (h : (stepA r o).2.2 ≠ 0) : (stepA r o).2.1 = [] ∧ (stepA r o).1 = z0R := by
  unfold stepA at h ⊢
  split
  · rename_i c; rw [if_pos c] at h; exact runV_bad h
  · rename_i c; rw [if_neg c] at h
    split
    · rename_i c; rw [if_pos c] at h; exact runV_bad h
    · rename_i c; rw [if_neg c] at h
      split
      · rename_i c; rw [if_pos c] at h; exact runV_bad h
      · rename_i c; rw [if_neg c] at h
        split
        · rename_i c; rw [if_pos c] at h; exact runV_bad h
        · rename_i c; rw [if_neg c] at h
          split
          · rename_i c; rw [if_pos c] at h; exact runV_bad h
          · rename_i c; rw [if_neg c] at h; exact runV_bad h
/-- CoreRight, plainly -/
theorem step_right (r : Rt) (o : Opn) (he : (stepA r o).2.2 = 0) :
    okR r = true ∧ okR (stepA r o).1 = true ∧ (stepA r o).1.me = r.me ∧ (stepA r o).1.dest = r.dest ∧ ∀ x ∈ (stepA r o).2.1, OutOk (stepA r o).1 x := by
  have key : ∀ {now chk : Int} {t' : Tn}, (runV r now chk t').2.2 = 0 → (okR r = true → chk = 0 → RI t' ∧ SameId (t0 r now) t') → okR r = true ∧ okR (runV r now chk t').1 = true ∧ (runV r now chk t').1.me = r.me ∧ (runV r now chk t').1.dest = r.dest ∧ ∀ x ∈ (runV r now chk t').2.1, OutOk (runV r now chk t').1 x := by
    intro now chk t' he hW
    obtain ⟨h1, _, h2, h3, h4⟩ := runV_ok he
    rw [h4]
    obtain ⟨h5, h6⟩ := hW h1 h2
    exact ⟨h1, h5.ok, h6.1, h6.2, h5.out⟩
  have hR0 : ∀ now, okR r = true → RI (t0 r now) := fun now h => ⟨h, fun x hx => by cases hx⟩
  unfold stepA at he ⊢
  split
  · rename_i c; rw [if_pos c] at he
    refine key he fun hr hc => ⟨?_, up_id _ _⟩
    unfold upC at hc
    split at hc
    · cases hc
    · rename_i h
      simp only [Bool.or_eq_true, not_or, Bool.not_eq_true, Bool.not_eq_false', decide_eq_false_iff_not, Bool.not_eq_true', decide_eq_true_eq] at h
      exact up_ri (hR0 0 hr) rfl o.id (by simpa using h.1) h.2
  · rename_i c; rw [if_neg c] at he
    split
    · rename_i c; rw [if_pos c] at he
      exact key he fun hr hc => ⟨lose_ri (drop_ri (hR0 _ hr) rfl o.id), lose_id _⟩
    · rename_i c; rw [if_neg c] at he
      split
      · rename_i c; rw [if_pos c] at he
        exact key he fun hr hc => ⟨hear_ri (hR0 _ hr) rfl o.id o.ob (hearC_ok hc).1 (hearC_ok hc).2.2.1, hear_id _ _ _⟩
      · rename_i c; rw [if_neg c] at he
        split
        · rename_i c; rw [if_pos c] at he
          exact key he fun hr hc => ⟨miss_ri (want_ri (hR0 0 hr) true), miss_id _⟩
        · rename_i c; rw [if_neg c] at he
          split
          · rename_i c; rw [if_pos c] at he
            exact key he fun hr hc => ⟨want_ri (hR0 0 hr) false, ⟨rfl, rfl⟩⟩
          · rename_i c; rw [if_neg c] at he
            refine key he fun hr hc => ⟨?_, ⟨rfl, rfl⟩⟩
            unfold refC at hc
            split at hc
            · cases hc
            · rename_i h
              simp only [Bool.or_eq_true, not_or, Bool.not_eq_true, Bool.not_eq_false', decide_eq_true_eq, Bool.not_eq_true'] at h
              exact refresh_ri (hR0 0 hr) o.num (by simp at h; omega) (by simp at h; exact h.1.1)
end Go.Proofs.YtgdpjpmjcpieiaaGreat

/- The destination, plainly. No condition. -/
namespace Go.Proofs.YtgdpjpmjcpieiaaGreat
open Go
set_option linter.unusedVariables false
set_option linter.unusedSimpArgs false
set_option maxHeartbeats 0
theorem len_up : ∀ (xs : List Vw) (a : Int), a ≤ 64 → (∀ x ∈ xs, a ≤ x.id ∧ x.id < 64) → xs.Pairwise (fun a b => a.id < b.id) → (xs.length : Int) ≤ 64 - a
  | [], a, h, _, _ => by simp; omega
  | x :: r, a, h, hi, hp => by
    rw [List.pairwise_cons] at hp
    have h1 := hi x (List.mem_cons_self ..)
    have := len_up r (x.id + 1) (by omega) (fun y hy => ⟨by have := hp.1 y hy; omega, (hi y (List.mem_cons_of_mem _ hy)).2⟩) hp.2
    rw [List.length_cons]; omega
theorem okVs_len {xs : List Vw} (h : okVs xs = true) : xs.length ≤ 64 := by
  obtain ⟨h1, h2⟩ := okVs_pw.1 h
  have := len_up xs 0 (by decide) (fun x hx => (okV_iff.1 (h1 x hx)).1) h2
  omega
/-- a destination that is right stays at Zero, and has not asked; wanting changes neither -/
theorem home_want {x : Rt} (hx : okR x = true) (hh : x.me = x.dest) : x.own = zeroH x.me ∧ x.asked = false ∧ wantA x = ({ x with want := true }, [], 0) := by
  have h1 := (okR_parts hx).2.2.2.2.2.2.2.2 hh
  have h2 : x.asked = false := by
    cases hq : x.asked with
    | false => rfl
    | true => have h2 := (okR_parts hx).2.2.2.2.2.2.1 hq; rw [h1] at h2; cases h2
  refine ⟨h1, h2, ?_⟩
  have hm : (({ t0 x 0 with r := { x with want := true } } : Tn).miss) = ({ t0 x 0 with r := { x with want := true } } : Tn) := by
    unfold Tn.miss
    rw [if_neg]
    simp [h1, zeroH]
  unfold wantA
  rw [hm]
  unfold runV
  rw [if_neg (by simp [hx, timeB]), if_neg (by simp), if_neg (by simp [t0])]
  rfl
theorem step_home (r : Rt) (o : Opn) (he : (stepA r o).2.2 = 0) (hh : r.me = r.dest) (hc : o.call = 2) :
    (o.ob.kind = 1 → (stepA r o).1 = r ∧ (stepA r o).2.1 = [⟨o.id, ⟨2, r.dest, zeroH r.me, z0L, 0⟩⟩]) ∧ (o.ob.kind = 2 → (stepA r o).2.1 = []) := by
  have hs : stepA r o = hearA r o.id o.ob o.now := by
    rw [stepA, if_neg (by omega), if_neg (by omega), if_pos hc]
  rw [hs] at he ⊢
  obtain ⟨h1, _, h2, h3, h4⟩ := runV_ok he
  have hz := (home_want h1 hh).1
  unfold hearA at *
  rw [h4]
  have hhome : (t0 r o.now).home = true := by simp [Tn.home, t0, hh]
  refine ⟨fun hk => ?_, fun hk => ?_⟩
  · have : (t0 r o.now).hear o.id o.ob = (t0 r o.now).tell o.id := by
      unfold Tn.hear Tn.qry
      rw [if_pos hk, if_neg]
      show ¬ r.own.null = true
      rw [hz]; simp [zeroH]
    rw [this]
    refine ⟨rfl, ?_⟩
    show [(⟨o.id, ⟨2, r.dest, r.own, z0L, 0⟩⟩ : Ou)] = _
    rw [hz]
  · have : (t0 r o.now).hear o.id o.ob = (t0 r o.now).set o.id o.ob.h := by
      unfold Tn.hear Tn.upd
      rw [if_neg (by omega), if_pos hk, if_pos (.inr hhome)]
    rw [this]; rfl
end Go.Proofs.YtgdpjpmjcpieiaaGreat

/- Two routes, two rows of what goes out: the document's comparison. No condition. -/
namespace Go.Proofs.YtgdpjpmjcpieiaaGreat
open Go
set_option linter.unusedVariables false
set_option linter.unusedSimpArgs false
set_option maxRecDepth 100000
set_option maxHeartbeats 0
theorem Rt.ext' {a b : Rt} : a = b ↔ a.me = b.me ∧ a.dest = b.dest ∧ a.own = b.own ∧ a.vs = b.vs ∧ a.asked = b.asked ∧ a.want = b.want ∧ a.heard = b.heard ∧ a.last = b.last := by
  obtain ⟨_, _, _, _, _, _, _, _⟩ := a
  obtain ⟨_, _, _, _, _, _, _, _⟩ := b
  simp
theorem Ou.ext' {a b : Ou} : a = b ↔ a.to = b.to ∧ a.ob = b.ob := by
  obtain ⟨_, _⟩ := a
  obtain ⟨_, _⟩ := b
  simp
theorem rSame_spec {g : Gl} {D : Dict} {M : MList} {v w : Value} (a b : Rt) (ha : Vws D v a.vs) (hb : Vws D w b.vs) : Gives Tryz.prog g 16 [.agg (Rt.cells v a).toArray, .agg (Rt.cells w b).toArray] D M (.bool (decide (a = b))) := by
  refine Gives.enter Tryz.func16 rfl Tryz.ntmps16 ?_; refine R.sq ?_; refine R.rg ?_; refine R.bxA (fun zb1 hzb1 => ?_); refine R.bxA (fun zb2 hzb2 => ?_); refine R.as ?_; refine R.nl ?_; refine R.hs (e' := [(2, _), (3, _)]) ?_; refine R.sq ?_; refine R.rg ?_; refine R.fa Tryz.runUnderlying26 Tryz.sizeOf3 ?_; refine R.ld Tryz.isAgg3 ?_; refine R.fa Tryz.runUnderlying26 Tryz.sizeOf3 ?_; refine R.ld Tryz.isAgg3 ?_; refine R.cm ?_; refine R.mv ?_; refine R.gd (fun zg3 => ?_) (fun zg3 => ?_)
  ·refine R.fa Tryz.runUnderlying26 Tryz.sizeOf3 ?_; refine R.gY (zg3) ?_; refine R.ld Tryz.isAgg3 ?_; refine R.gY (zg3) ?_; refine R.fa Tryz.runUnderlying26 Tryz.sizeOf3 ?_; refine R.gY (zg3) ?_; refine R.ld Tryz.isAgg3 ?_; refine R.gY (zg3) ?_; refine R.cm ?_; refine R.pT (zg3) ?_; refine R.mv ?_; refine R.gd (fun zg4 => ?_) (fun zg4 => ?_)
   ·refine R.fa Tryz.runUnderlying26 Tryz.sizeOf23 ?_; refine R.gY (zg4) ?_; refine R.lA 6 Tryz.isAgg23 Tryz.sizeOf23 ?_; refine R.gY (zg4) ?_; refine R.fa Tryz.runUnderlying26 Tryz.sizeOf23 ?_; refine R.gY (zg4) ?_; refine R.lA 6 Tryz.isAgg23 Tryz.sizeOf23 ?_; refine R.gY (zg4) ?_; refine R.ea Tryz.eqGuardType23 (eqAt23 _ _ _ _ _ _ _ _ _ _ _ _) ?_; refine R.pT (zg4) ?_; refine R.mv ?_; refine R.gd (fun zg5 => ?_) (fun zg5 => ?_)
    ·refine R.fa Tryz.runUnderlying26 Tryz.sizeOf24 ?_; refine R.gY (zg5) ?_; refine R.ld Tryz.isAgg24 ?_; refine R.gY (zg5) ?_; refine R.fa Tryz.runUnderlying26 Tryz.sizeOf24 ?_; refine R.gY (zg5) ?_; refine R.ld Tryz.isAgg24 ?_; refine R.gY (zg5) ?_; refine R.cg Tryz.call43 (vSame_spec ha hb) ?_; refine R.pT (zg5) ?_; refine R.mv ?_; refine R.gd (fun zg6 => ?_) (fun zg6 => ?_)
     ·refine R.fa Tryz.runUnderlying26 Tryz.sizeOf4 ?_; refine R.gY (zg6) ?_; refine R.ld Tryz.isAgg4 ?_; refine R.gY (zg6) ?_; refine R.fa Tryz.runUnderlying26 Tryz.sizeOf4 ?_; refine R.gY (zg6) ?_; refine R.ld Tryz.isAgg4 ?_; refine R.gY (zg6) ?_; refine R.eb Tryz.runUnderlying4 ?_; refine R.pT (zg6) ?_; refine R.mv ?_; refine R.gd (fun zg7 => ?_) (fun zg7 => ?_)
      ·refine R.fa Tryz.runUnderlying26 Tryz.sizeOf4 ?_; refine R.gY (zg7) ?_; refine R.ld Tryz.isAgg4 ?_; refine R.gY (zg7) ?_; refine R.fa Tryz.runUnderlying26 Tryz.sizeOf4 ?_; refine R.gY (zg7) ?_; refine R.ld Tryz.isAgg4 ?_; refine R.gY (zg7) ?_; refine R.eb Tryz.runUnderlying4 ?_; refine R.pT (zg7) ?_; refine R.mv ?_; refine R.gd (fun zg8 => ?_) (fun zg8 => ?_)
       ·refine R.fa Tryz.runUnderlying26 Tryz.sizeOf4 ?_; refine R.gY (zg8) ?_; refine R.ld Tryz.isAgg4 ?_; refine R.gY (zg8) ?_; refine R.fa Tryz.runUnderlying26 Tryz.sizeOf4 ?_; refine R.gY (zg8) ?_; refine R.ld Tryz.isAgg4 ?_; refine R.gY (zg8) ?_; refine R.eb Tryz.runUnderlying4 ?_; refine R.pT (zg8) ?_; refine R.mv ?_; refine R.gd (fun zg9 => ?_) (fun zg9 => ?_)
        ·refine R.fa Tryz.runUnderlying26 Tryz.sizeOf3 ?_; refine R.gY (zg9) ?_; refine R.ld Tryz.isAgg3 ?_; refine R.gY (zg9) ?_; refine R.fa Tryz.runUnderlying26 Tryz.sizeOf3 ?_; refine R.gY (zg9) ?_; refine R.ld Tryz.isAgg3 ?_; refine R.gY (zg9) ?_; refine R.cm ?_; refine R.pT (zg9) ?_; refine R.as ?_; refine R.nl ?_; refine R.hs (e' := [(4, _)]) ?_; refine R.rt (RV.t .nil) 2 (congrArg Value.bool ?_)
         clear ha hb
         simp only [Rt.ext', Ht.ext'] at * <;> grind
        ·refine R.gF (zg9) ?_; refine R.gF (zg9) ?_; refine R.gF (zg9) ?_; refine R.gF (zg9) ?_; refine R.pF (zg9) ?_; refine R.as ?_; refine R.nl ?_; refine R.hs (e' := [(4, _)]) ?_; refine R.rt (RV.t .nil) 2 (congrArg Value.bool ?_)
         clear ha hb
         simp only [Rt.ext', Ht.ext'] at * <;> grind
       ·refine R.gF (zg8) ?_; refine R.gF (zg8) ?_; refine R.gF (zg8) ?_; refine R.gF (zg8) ?_; refine R.pF (zg8) ?_; refine R.mv ?_; refine R.gF (rfl) ?_; refine R.gF (rfl) ?_; refine R.gF (rfl) ?_; refine R.gF (rfl) ?_; refine R.gF (rfl) ?_; refine R.pF (rfl) ?_; refine R.as ?_; refine R.nl ?_; refine R.hs (e' := [(4, _)]) ?_; refine R.rt (RV.t .nil) 2 (congrArg Value.bool ?_)
        clear ha hb
        simp only [Rt.ext', Ht.ext'] at * <;> grind
      ·refine R.gF (zg7) ?_; refine R.gF (zg7) ?_; refine R.gF (zg7) ?_; refine R.gF (zg7) ?_; refine R.pF (zg7) ?_; refine R.mv ?_; refine R.gF (rfl) ?_; refine R.gF (rfl) ?_; refine R.gF (rfl) ?_; refine R.gF (rfl) ?_; refine R.gF (rfl) ?_; refine R.pF (rfl) ?_; refine R.mv ?_; refine R.gF (rfl) ?_; refine R.gF (rfl) ?_; refine R.gF (rfl) ?_; refine R.gF (rfl) ?_; refine R.gF (rfl) ?_; refine R.pF (rfl) ?_; refine R.as ?_; refine R.nl ?_; refine R.hs (e' := [(4, _)]) ?_; refine R.rt (RV.t .nil) 2 (congrArg Value.bool ?_)
       clear ha hb
       simp only [Rt.ext', Ht.ext'] at * <;> grind
     ·refine R.gF (zg6) ?_; refine R.gF (zg6) ?_; refine R.gF (zg6) ?_; refine R.gF (zg6) ?_; refine R.pF (zg6) ?_; refine R.mv ?_; refine R.gF (rfl) ?_; refine R.gF (rfl) ?_; refine R.gF (rfl) ?_; refine R.gF (rfl) ?_; refine R.gF (rfl) ?_; refine R.pF (rfl) ?_; refine R.mv ?_; refine R.gF (rfl) ?_; refine R.gF (rfl) ?_; refine R.gF (rfl) ?_; refine R.gF (rfl) ?_; refine R.gF (rfl) ?_; refine R.pF (rfl) ?_; refine R.mv ?_; refine R.gF (rfl) ?_; refine R.gF (rfl) ?_; refine R.gF (rfl) ?_; refine R.gF (rfl) ?_; refine R.gF (rfl) ?_; refine R.pF (rfl) ?_; refine R.as ?_; refine R.nl ?_; refine R.hs (e' := [(4, _)]) ?_; refine R.rt (RV.t .nil) 2 (congrArg Value.bool ?_)
      clear ha hb
      simp only [Rt.ext', Ht.ext'] at * <;> grind
    ·refine R.gF (zg5) ?_; refine R.gF (zg5) ?_; refine R.gF (zg5) ?_; refine R.gF (zg5) ?_; refine R.pF (zg5) ?_; refine R.mv ?_; refine R.gF (rfl) ?_; refine R.gF (rfl) ?_; refine R.gF (rfl) ?_; refine R.gF (rfl) ?_; refine R.gF (rfl) ?_; refine R.pF (rfl) ?_; refine R.mv ?_; refine R.gF (rfl) ?_; refine R.gF (rfl) ?_; refine R.gF (rfl) ?_; refine R.gF (rfl) ?_; refine R.gF (rfl) ?_; refine R.pF (rfl) ?_; refine R.mv ?_; refine R.gF (rfl) ?_; refine R.gF (rfl) ?_; refine R.gF (rfl) ?_; refine R.gF (rfl) ?_; refine R.gF (rfl) ?_; refine R.pF (rfl) ?_; refine R.mv ?_; refine R.gF (rfl) ?_; refine R.gF (rfl) ?_; refine R.gF (rfl) ?_; refine R.gF (rfl) ?_; refine R.gF (rfl) ?_; refine R.pF (rfl) ?_; refine R.as ?_; refine R.nl ?_; refine R.hs (e' := [(4, _)]) ?_; refine R.rt (RV.t .nil) 2 (congrArg Value.bool ?_)
     clear ha hb
     simp only [Rt.ext', Ht.ext'] at * <;> grind
   ·refine R.gF (zg4) ?_; refine R.gF (zg4) ?_; refine R.gF (zg4) ?_; refine R.gF (zg4) ?_; refine R.pF (zg4) ?_; refine R.mv ?_; refine R.gF (rfl) ?_; refine R.gF (rfl) ?_; refine R.gF (rfl) ?_; refine R.gF (rfl) ?_; refine R.gF (rfl) ?_; refine R.pF (rfl) ?_; refine R.mv ?_; refine R.gF (rfl) ?_; refine R.gF (rfl) ?_; refine R.gF (rfl) ?_; refine R.gF (rfl) ?_; refine R.gF (rfl) ?_; refine R.pF (rfl) ?_; refine R.mv ?_; refine R.gF (rfl) ?_; refine R.gF (rfl) ?_; refine R.gF (rfl) ?_; refine R.gF (rfl) ?_; refine R.gF (rfl) ?_; refine R.pF (rfl) ?_; refine R.mv ?_; refine R.gF (rfl) ?_; refine R.gF (rfl) ?_; refine R.gF (rfl) ?_; refine R.gF (rfl) ?_; refine R.gF (rfl) ?_; refine R.pF (rfl) ?_; refine R.mv ?_; refine R.gF (rfl) ?_; refine R.gF (rfl) ?_; refine R.gF (rfl) ?_; refine R.gF (rfl) ?_; refine R.gF (rfl) ?_; refine R.pF (rfl) ?_; refine R.as ?_; refine R.nl ?_
    refine R.hs (e' := [(4, _)]) ?_; refine R.rt (RV.t .nil) 2 (congrArg Value.bool ?_)
    clear ha hb
    simp only [Rt.ext', Ht.ext'] at * <;> grind
  ·refine R.gF (zg3) ?_; refine R.gF (zg3) ?_; refine R.gF (zg3) ?_; refine R.gF (zg3) ?_; refine R.pF (zg3) ?_; refine R.mv ?_; refine R.gF (rfl) ?_; refine R.gF (rfl) ?_; refine R.gF (rfl) ?_; refine R.gF (rfl) ?_; refine R.gF (rfl) ?_; refine R.pF (rfl) ?_; refine R.mv ?_; refine R.gF (rfl) ?_; refine R.gF (rfl) ?_; refine R.gF (rfl) ?_; refine R.gF (rfl) ?_; refine R.gF (rfl) ?_; refine R.pF (rfl) ?_; refine R.mv ?_; refine R.gF (rfl) ?_; refine R.gF (rfl) ?_; refine R.gF (rfl) ?_; refine R.gF (rfl) ?_; refine R.gF (rfl) ?_; refine R.pF (rfl) ?_; refine R.mv ?_; refine R.gF (rfl) ?_; refine R.gF (rfl) ?_; refine R.gF (rfl) ?_; refine R.gF (rfl) ?_; refine R.gF (rfl) ?_; refine R.pF (rfl) ?_; refine R.mv ?_; refine R.gF (rfl) ?_; refine R.gF (rfl) ?_; refine R.gF (rfl) ?_; refine R.gF (rfl) ?_; refine R.gF (rfl) ?_; refine R.pF (rfl) ?_; refine R.mv ?_; refine R.gF (rfl) ?_
   refine R.gF (rfl) ?_; refine R.gF (rfl) ?_; refine R.gF (rfl) ?_; refine R.gF (rfl) ?_; refine R.pF (rfl) ?_; refine R.as ?_; refine R.nl ?_; refine R.hs (e' := [(4, _)]) ?_; refine R.rt (RV.t .nil) 2 (congrArg Value.bool ?_)
   clear ha hb
   simp only [Rt.ext', Ht.ext'] at * <;> grind
theorem outs_spec {g : Gl} {D : Dict} {M : MList} {v w : Value} {xs ys : List Ou} (ha : Outs D v xs) (hb : Outs D w ys) : Gives Tryz.prog g 17 [v, w] D M (.bool (decide (xs = ys))) := by
  have hla := ha.form.choose_spec.choose_spec.2.2
  have hlb := hb.form.choose_spec.choose_spec.2.2
  refine Gives.enter Tryz.func17 rfl Tryz.ntmps17 ?_; refine R.sq ?_; refine R.rg ?_; refine R.as ?_; refine R.nl ?_; refine R.hs (e' := [(0, _), (1, _)]) ?_; refine R.sq ?_; refine R.sq ?_; refine R.rg ?_; refine R.mv ?_; refine R.ll (ha) Tryz.runUnderlying34 ?_; refine R.mv ?_; refine R.ll (hb) Tryz.runUnderlying34 ?_; refine R.cm ?_; refine R.nl ?_; refine R.hs (e' := [(0, _), (1, _), (10, _)]) ?_; refine R.cd (fun zc1 => ?_) (fun zc1 => ?_)
  ·
   have hn : ¬ xs.length = ys.length := by simp at zc1; omega
   have hne : ¬ xs = ys := fun e => hn (by rw [e])
   refine R.sq ?_; refine R.rg ?_; refine R.as ?_; refine R.nl ?_; refine R.hs (e' := [(4, _)]) ?_; refine R.rt (RV.t .nil) 0 (congrArg Value.bool ?_)
   first | (rw [decide_eq_false hne]; done) | (rw [decide_eq_true hend])
  ·
   have hn : xs.length = ys.length := by simp at zc1; omega
   refine Run.skip ?_; refine R.sq ?_; refine R.sq ?_; refine R.rg ?_; refine R.as ?_; refine R.nl ?_; refine R.hs (e' := [(0, _), (1, _), (5, _)]) ?_; refine Run.block ?_; refine Run.loop (ι := Nat) [(0, _), (1, _)] (fun i => [(5, .int .i64 (i : Int))]) (fun _ => D) (fun _ => M) (fun i => i ≤ xs.length ∧ xs.take i = ys.take i) (fun i => xs.length - i) (0) (by repeat (first | exact trivial | refine ⟨rfl, ?_⟩)) ?h0 (by repeat (first | exact trivial | refine ⟨rfl, ?_⟩)) (fun w hs => hs) ?_
   case h0 => exact ⟨Nat.zero_le _, rfl⟩
   rintro i ⟨hi, hpre⟩; refine R.sq ?_; refine R.sq ?_; refine R.rg ?_; refine R.mv ?_; refine R.mv ?_; refine R.ll (ha) Tryz.runUnderlying34 ?_; refine R.cm ?_; refine R.nl ?_; refine R.hs (e' := [(0, _), (1, _), (5, _), (14, _)]) ?_; refine R.cd (fun zc2 => ?_) (fun zc2 => ?_)
   ·
    have hlt : i < xs.length := by simp at zc2; omega
    obtain ⟨x, hgx⟩ := get_of_lt hlt
    obtain ⟨y, hgy⟩ := get_of_lt (xs := ys) (i := i) (by omega)
    obtain ⟨b1, o1, hI1, hc1⟩ := ha.at Ou.len hgx
    obtain ⟨b2, o2, hI2, hc2⟩ := hb.at Ou.len hgy
    refine Run.skip ?_; refine R.sq ?_; refine Run.block ?_; refine R.sq ?_; refine Run.drawC Grow.eq 8 [(0, _), (1, _), (5, _)] mix (by kernel_rfl) (by repeat (first | exact trivial | refine ⟨rfl, ?_⟩)) ?_; apply TC.val []; exact rfl; kernel_rfl
    ·rintro _  rfl ; refine R.mv ?_; refine R.nl ?_; exact Run.loc rfl rfl rfl
    apply TC.val []; exact rfl; kernel_rfl
    ·rintro _  rfl ; refine R.mv ?_; refine R.nl ?_; exact Run.loc rfl rfl rfl
    apply TC.val [1, 0]; exact rfl; kernel_rfl
    ·rintro _  rfl _ rfl _ rfl; refine R.ix (hI1) Tryz.runUnderlying34 Tryz.sizeOf50 ?_; refine R.nl ?_; exact Run.loc rfl rfl rfl
    apply TC.val [0]; exact rfl; kernel_rfl
    ·rintro _  rfl _ rfl; refine R.lAD 13 Tryz.isAgg50 Tryz.sizeOf50 ?_; refine R.nl ?_; exact Run.loc rfl rfl rfl
    apply TC.val []; exact rfl; kernel_rfl
    ·rintro _  rfl ; refine R.mv ?_; refine R.nl ?_; exact Run.loc rfl rfl rfl
    apply TC.val []; exact rfl; kernel_rfl
    ·rintro _  rfl ; refine R.mv ?_; refine R.nl ?_; exact Run.loc rfl rfl rfl
    apply TC.val [1, 0]; exact rfl; kernel_rfl
    ·rintro _  rfl _ rfl _ rfl; refine R.ix (hI2) Tryz.runUnderlying34 Tryz.sizeOf50 ?_; refine R.nl ?_; exact Run.loc rfl rfl rfl
    apply TC.val [0]; exact rfl; kernel_rfl
    ·rintro _  rfl _ rfl; refine R.lAD 13 Tryz.isAgg50 Tryz.sizeOf50 ?_; refine R.nl ?_; exact Run.loc rfl rfl rfl
    refine TC.fin (by rfl) ?_; rintro _  rfl _ rfl _ rfl _ rfl _ rfl _ rfl _ rfl _ rfl _ rfl; refine R.na Tryz.eqGuardType50 (eqAt50 _ _ _ _ _ _ _ _ _ _ _ _ _ _ _ _ _ _ _ _ _ _ _ _ _ _) ?_; refine R.nl ?_; refine R.hs (e' := [(0, _), (1, _), (5, _), (25, _)]) ?_; refine R.cd (fun zc12 => ?_) (fun zc12 => ?_)
    ·
     have hne : ¬ xs = ys := fun e => by
       rw [e, hgy] at hgx
       injection hgx with hgx
       rw [hgx] at zc12
       simp at zc12
     refine R.sq ?_; refine R.rg ?_; refine R.as ?_; refine R.nl ?_; refine R.hs (e' := [(4, _)]) ?_; refine R.rt (RV.t .nil) 0 (congrArg Value.bool ?_)
     first | (rw [decide_eq_false hne]; done) | (rw [decide_eq_true hend])
    ·
     have heq : x = y := by rw [Ou.ext', Ob.ext']; simpa [and_assoc] using zc12
     refine Run.skip ?_; refine Run.endBlock ?_; refine R.rg ?_; refine R.mv ?_; refine R.ad ?_; refine R.as ?_; refine R.nl ?_; refine R.hs (e' := [(0, _), (1, _), (5, _)]) ?_; exact Run.again (i + 1) ⟨by omega, by rw [take_succ' hgx, take_succ' hgy, hpre, heq]⟩ (by omega) (by refine ⟨rfl, ?_⟩; repeat (first | exact trivial | refine ⟨rfl, ?_⟩)) (fun w hs => hs)
   ·
    have hend : xs = ys := by
      have h1 : xs.take i = xs := List.take_of_length_le (by simp at zc2; omega)
      have h2 : ys.take i = ys := List.take_of_length_le (by simp at zc2; omega)
      rw [h1, h2] at hpre; exact hpre
    refine Run.exit rfl ?_; refine R.sq ?_; refine R.rg ?_; refine R.as ?_; refine R.nl ?_; refine R.hs (e' := [(4, _)]) ?_; refine R.rt (RV.t .nil) 0 (congrArg Value.bool ?_)
    first | (rw [decide_eq_false hne]; done) | (rw [decide_eq_true hend])
end Go.Proofs.YtgdpjpmjcpieiaaGreat
