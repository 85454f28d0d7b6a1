import Derived.MapKept
import Derived.Test.YtgdpjpmjcpieiaaGreatQ9
/- A route: is it right? No condition. -/
namespace Go.Proofs.YtgdpjpmjcpieiaaGreat
open Go
set_option linter.unusedVariables false
set_option linter.unusedSimpArgs false
set_option maxRecDepth 100000
set_option maxHeartbeats 0
def nodeB (n : Int) : Bool := decide (0 ≤ n) && decide (n < 64)
def timeB (n : Int) : Bool := decide (0 ≤ n) && decide (n ≤ 4611686018427387903)
theorem node_spec {g : Gl} {D : Dict} {M : MList} (a : Int) : Gives Tryz.prog g 39 [.int .i64 a] D M (.bool (nodeB a)) := by
  refine Gives.enter Tryz.func39 rfl Tryz.ntmps39 ?_; refine R.sq ?_; refine R.rg ?_; refine R.as ?_; refine R.nl ?_; refine R.hs (e' := [(0, _)]) ?_; refine R.sq ?_; refine R.rg ?_; refine R.mv ?_; refine R.cm ?_; refine R.mv ?_; refine R.gd (fun zg1 => ?_) (fun zg1 => ?_)
  ·refine R.mv ?_; refine R.gY (zg1) ?_; refine R.cm ?_; refine R.pT (zg1) ?_; refine R.as ?_; refine R.nl ?_; refine R.hs (e' := [(2, _)]) ?_; refine R.rt (RV.t .nil) 0 (congrArg Value.bool ?_)
   simp only [nodeB] at *; grind
  ·refine R.gF (zg1) ?_; refine R.pF (zg1) ?_; refine R.as ?_; refine R.nl ?_; refine R.hs (e' := [(2, _)]) ?_; refine R.rt (RV.t .nil) 0 (congrArg Value.bool ?_)
   simp only [nodeB] at *; grind
theorem time_spec {g : Gl} {D : Dict} {M : MList} (a : Int) : Gives Tryz.prog g 93 [.int .i64 a] D M (.bool (timeB a)) := by
  refine Gives.enter Tryz.func93 rfl Tryz.ntmps93 ?_; refine R.sq ?_; refine R.rg ?_; refine R.as ?_; refine R.nl ?_; refine R.hs (e' := [(0, _)]) ?_; refine R.sq ?_; refine R.rg ?_; refine R.mv ?_; refine R.cm ?_; refine R.mv ?_; refine R.gd (fun zg1 => ?_) (fun zg1 => ?_)
  ·refine R.mv ?_; refine R.gY (zg1) ?_; refine R.cm ?_; refine R.pT (zg1) ?_; refine R.as ?_; refine R.nl ?_; refine R.hs (e' := [(2, _)]) ?_; refine R.rt (RV.t .nil) 0 (congrArg Value.bool ?_)
   simp only [timeB] at *; grind
  ·refine R.gF (zg1) ?_; refine R.pF (zg1) ?_; refine R.as ?_; refine R.nl ?_; refine R.hs (e' := [(2, _)]) ?_; refine R.rt (RV.t .nil) 0 (congrArg Value.bool ?_)
   simp only [timeB] at *; grind
def okR (r : Rt) : Bool :=
  nodeB r.me && nodeB r.dest && decide (r.own.id = r.me) && !(getV r.vs r.me).isSome && okH r.own && okVs r.vs && !(r.asked && !r.own.null) && (decide (0 ≤ r.last) && decide (r.last ≤ 65535) && (r.heard || decide (r.last ≤ 0))) && (!decide (r.me = r.dest) || decide (r.own = zeroH r.me))
theorem rCheck_spec {g : Gl} {D : Dict} {M : MList} {v : Value} (r : Rt) (hV : Vws D v r.vs) : Gives Tryz.prog g 18 [.agg (Rt.cells v r).toArray] D M (.int .i64 (errA (okR r))) := by
  obtain ⟨A0, c0, hv, _, _⟩ := hV.form
  subst hv
  refine Gives.enter Tryz.func18 rfl Tryz.ntmps18 ?_; refine R.sq ?_; refine R.rg ?_; refine R.bxA (fun zb1 hzb1 => ?_); refine R.as ?_; refine R.nl ?_; refine R.hs (e' := [(1, _)]) ?_; refine R.sq ?_; refine R.rg ?_; refine R.fa Tryz.runUnderlying26 Tryz.sizeOf24 ?_; refine R.ld Tryz.isAgg24 ?_; refine R.fa Tryz.runUnderlying26 Tryz.sizeOf3 ?_; refine R.ld Tryz.isAgg3 ?_; refine R.cg Tryz.call21 (get_spec _ hV) ?_; refine R.mv ?_; refine R.ex ?_; refine R.ex ?_; refine R.alA Tryz.zeroValue23 (fun zb2 hzb2 => ?_); refine R.st Tryz.sizeOf23 ?_; refine R.as ?_; refine R.nl ?_; refine R.hs (e' := [(1, _), (4, _)]) ?_; refine R.sq ?_; refine Run.block ?_; refine R.sq ?_; refine R.rg ?_; refine R.fa Tryz.runUnderlying26 Tryz.sizeOf3 ?_; refine R.ld Tryz.isAgg3 ?_; refine R.cg Tryz.call39 (node_spec _) ?_; refine R.nt ?_; refine R.mv ?_; refine R.gd (fun zg3 => ?_) (fun zg3 => ?_)
  ·refine R.fa Tryz.runUnderlying26 Tryz.sizeOf3 ?_; refine R.gY (zg3) ?_; refine R.ld Tryz.isAgg3 ?_; refine R.gY (zg3) ?_; refine R.cg Tryz.call39 (node_spec _) ?_; refine R.gY (zg3) ?_; refine R.nt ?_; refine R.pF (zg3) ?_; refine R.mv ?_; refine R.gd (fun zg4 => ?_) (fun zg4 => ?_)
   ·refine R.fa Tryz.runUnderlying26 Tryz.sizeOf23 ?_; refine R.gY (zg4) ?_; refine R.fa Tryz.runUnderlying23 Tryz.sizeOf3 ?_; refine R.gY (zg4) ?_; refine R.ld Tryz.isAgg3 ?_; refine R.gY (zg4) ?_; refine R.fa Tryz.runUnderlying26 Tryz.sizeOf3 ?_; refine R.gY (zg4) ?_; refine R.ld Tryz.isAgg3 ?_; refine R.gY (zg4) ?_; refine R.cm ?_; refine R.pF (zg4) ?_; refine R.mv ?_; refine R.gd (fun zg5 => ?_) (fun zg5 => ?_)
    ·refine R.mv ?_; refine R.pF (zg5) ?_; refine R.as ?_; refine R.nl ?_; refine R.hs (e' := [(1, _), (13, _)]) ?_; refine R.cd (fun zc6 => ?_) (fun zc6 => ?_)
     ·refine Run.skip ?_; refine Run.endBlock ?_; refine R.sq ?_; refine R.rg ?_; refine R.as ?_; refine R.nl ?_; refine R.hs (e' := [(2, _)]) ?_; refine R.rt (RV.t .nil) 2 (congrArg (Value.int .i64) ?_)
      clear hV
      simp only [errA, okR, zeroH, Ht.ext'] at *; grind
     ·refine R.sq ?_; refine R.rg ?_; refine R.fa Tryz.runUnderlying26 Tryz.sizeOf23 ?_; refine R.lA 6 Tryz.isAgg23 Tryz.sizeOf23 ?_; refine R.cg Tryz.call44 (hCheck_spec r.own) ?_; refine R.cm ?_; refine R.mv ?_; refine R.gd (fun zg7 => ?_) (fun zg7 => ?_)
      ·refine R.fa Tryz.runUnderlying26 Tryz.sizeOf24 ?_; refine R.gY (zg7) ?_; refine R.ld Tryz.isAgg24 ?_; refine R.gY (zg7) ?_; refine R.cg Tryz.call45 (vCheck_spec hV) ?_; refine R.gY (zg7) ?_; refine R.cm ?_; refine R.pF (zg7) ?_; refine R.as ?_; refine R.nl ?_; refine R.hs (e' := [(1, _), (35, _)]) ?_; refine R.cd (fun zc8 => ?_) (fun zc8 => ?_)
       ·refine Run.skip ?_; refine Run.endBlock ?_; refine R.sq ?_; refine R.rg ?_; refine R.as ?_; refine R.nl ?_; refine R.hs (e' := [(2, _)]) ?_; refine R.rt (RV.t .nil) 2 (congrArg (Value.int .i64) ?_)
        clear hV
        simp only [errA, okR, zeroH, Ht.ext'] at *; grind
       ·refine R.sq ?_; refine R.rg ?_; refine R.fa Tryz.runUnderlying26 Tryz.sizeOf4 ?_; refine R.ld Tryz.isAgg4 ?_; refine R.mv ?_; refine R.gd (fun zg9 => ?_) (fun zg9 => ?_)
        ·refine R.fa Tryz.runUnderlying26 Tryz.sizeOf23 ?_; refine R.gY (zg9) ?_; refine R.fa Tryz.runUnderlying23 Tryz.sizeOf4 ?_; refine R.gY (zg9) ?_; refine R.ld Tryz.isAgg4 ?_; refine R.gY (zg9) ?_; refine R.nt ?_; refine R.pT (zg9) ?_; refine R.mv ?_; refine R.gd (fun zg10 => ?_) (fun zg10 => ?_)
         ·refine R.fa Tryz.runUnderlying26 Tryz.sizeOf3 ?_; refine R.gY (zg10) ?_; refine R.ld Tryz.isAgg3 ?_; refine R.gY (zg10) ?_; refine R.cm ?_; refine R.pF (zg10) ?_; refine R.mv ?_; refine R.gd (fun zg11 => ?_) (fun zg11 => ?_)
          ·refine R.fa Tryz.runUnderlying26 Tryz.sizeOf3 ?_; refine R.gY (zg11) ?_; refine R.ld Tryz.isAgg3 ?_; refine R.gY (zg11) ?_; refine R.cm ?_; refine R.pF (zg11) ?_; refine R.mv ?_; refine R.gd (fun zg12 => ?_) (fun zg12 => ?_)
           ·refine R.fa Tryz.runUnderlying26 Tryz.sizeOf3 ?_; refine R.gY (zg12) ?_; refine R.ld Tryz.isAgg3 ?_; refine R.gY (zg12) ?_; refine R.cm ?_; refine R.gY (zg12) ?_; refine R.mv ?_; refine R.gd (fun zg13 => ?_) (fun zg13 => ?_)
            ·refine R.fa Tryz.runUnderlying26 Tryz.sizeOf4 ?_; refine R.gY (zg13) ?_; refine R.ld Tryz.isAgg4 ?_; refine R.gY (zg13) ?_; refine R.nt ?_; refine R.gY (zg12) ?_; refine R.pT (zg13) ?_; refine R.pF (zg12) ?_; refine R.as ?_; refine R.nl ?_; refine R.hs (e' := [(1, _), (46, _)]) ?_; refine R.cd (fun zc14 => ?_) (fun zc14 => ?_)
             ·refine Run.skip ?_; refine Run.endBlock ?_; refine R.sq ?_; refine R.rg ?_; refine R.as ?_; refine R.nl ?_; refine R.hs (e' := [(2, _)]) ?_; refine R.rt (RV.t .nil) 2 (congrArg (Value.int .i64) ?_)
              clear hV
              simp only [errA, okR, zeroH, Ht.ext'] at *; grind
             ·refine R.sq ?_
              rcases Bool.eq_false_or_eq_true (decide (r.me = r.dest)) with zg15 | zg15
              ·refine Run.drawC Grow.eq 11 [(1, _)] mix (by kernel_rfl) (by repeat (first | exact trivial | refine ⟨rfl, ?_⟩)) ?_; apply TC.val []; exact rfl; kernel_rfl
               ·rintro _  rfl ; refine R.fa Tryz.runUnderlying26 Tryz.sizeOf3 ?_; refine R.nl ?_; exact Run.loc rfl rfl rfl
               apply TC.val [0]; exact rfl; kernel_rfl
               ·rintro _  rfl _ rfl; refine R.ld Tryz.isAgg3 ?_; refine R.nl ?_; exact Run.loc rfl rfl rfl
               apply TC.val []; exact rfl; kernel_rfl
               ·rintro _  rfl ; refine R.fa Tryz.runUnderlying26 Tryz.sizeOf3 ?_; refine R.nl ?_; exact Run.loc rfl rfl rfl
               apply TC.val [0]; exact rfl; kernel_rfl
               ·rintro _  rfl _ rfl; refine R.ld Tryz.isAgg3 ?_; refine R.nl ?_; exact Run.loc rfl rfl rfl
               apply TC.val [2, 0]; exact rfl; kernel_rfl
               ·rintro _  rfl _ rfl _ rfl; refine R.cm ?_; refine R.nl ?_; exact Run.loc rfl rfl rfl
               apply TC.val [0]; exact rfl; kernel_rfl
               ·rintro _  rfl _ rfl; refine R.mv ?_; refine R.nl ?_; exact Run.loc rfl rfl rfl
               apply TC.val [0]; exact rfl; kernel_rfl
               ·rintro _  rfl _ rfl; refine R.gY (zg15) ?_; refine R.fa Tryz.runUnderlying26 Tryz.sizeOf23 ?_; refine R.nl ?_; exact Run.loc rfl rfl rfl
               apply TC.val [1, 0]; exact rfl; kernel_rfl
               ·rintro _  rfl _ rfl _ rfl; refine R.gY (zg15) ?_; refine R.lA 6 Tryz.isAgg23 Tryz.sizeOf23 ?_; refine R.nl ?_; exact Run.loc rfl rfl rfl
               apply TC.val [2]; exact rfl; kernel_rfl
               ·rintro _  rfl _ rfl; refine R.gY (zg15) ?_; refine R.fa Tryz.runUnderlying26 Tryz.sizeOf3 ?_; refine R.nl ?_; exact Run.loc rfl rfl rfl
               apply TC.val [3, 0]; exact rfl; kernel_rfl
               ·rintro _  rfl _ rfl _ rfl; refine R.gY (zg15) ?_; refine R.ld Tryz.isAgg3 ?_; refine R.nl ?_; exact Run.loc rfl rfl rfl
               apply TC.val [4, 0]; exact rfl; kernel_rfl
               ·rintro _  rfl _ rfl _ rfl; refine R.gY (zg15) ?_; refine R.cg Tryz.call22 (zero_spec _) ?_; refine R.nl ?_; exact Run.loc rfl rfl rfl
               refine TC.fin (by rfl) ?_; rintro _  rfl _ rfl _ rfl _ rfl _ rfl _ rfl _ rfl _ rfl _ rfl _ rfl _ rfl _ rfl; refine R.gY (zg15) ?_; refine R.na Tryz.eqGuardType23 (eqAt23 _ _ _ _ _ _ _ _ _ _ _ _) ?_; refine R.pT (zg15) ?_; refine R.as ?_; refine R.nl ?_; refine R.hs (e' := [(75, _)]) ?_; refine R.cd (fun zc28 => ?_) (fun zc28 => ?_)
               ·refine Run.skip ?_; refine Run.endBlock ?_; refine R.sq ?_; refine R.rg ?_; refine R.as ?_; refine R.nl ?_; refine R.hs (e' := [(2, _)]) ?_; refine R.rt (RV.t .nil) 2 (congrArg (Value.int .i64) ?_)
                clear hV
                simp only [errA, okR, zeroH, Ht.ext'] at *; grind
               ·refine R.sq ?_; refine R.rg ?_; refine R.as ?_; refine R.nl ?_; refine R.hs (e' := [(2, _)]) ?_; refine R.rt (RV.t .nil) 2 (congrArg (Value.int .i64) ?_)
                clear hV
                simp only [errA, okR, zeroH, Ht.ext'] at *; grind
              ·refine Run.drawC Grow.eq 11 [(1, _)] mix (by kernel_rfl) (by repeat (first | exact trivial | refine ⟨rfl, ?_⟩)) ?_; apply TC.val []; exact rfl; kernel_rfl
               ·rintro _  rfl ; refine R.fa Tryz.runUnderlying26 Tryz.sizeOf3 ?_; refine R.nl ?_; exact Run.loc rfl rfl rfl
               apply TC.val [0]; exact rfl; kernel_rfl
               ·rintro _  rfl _ rfl; refine R.ld Tryz.isAgg3 ?_; refine R.nl ?_; exact Run.loc rfl rfl rfl
               apply TC.val []; exact rfl; kernel_rfl
               ·rintro _  rfl ; refine R.fa Tryz.runUnderlying26 Tryz.sizeOf3 ?_; refine R.nl ?_; exact Run.loc rfl rfl rfl
               apply TC.val [0]; exact rfl; kernel_rfl
               ·rintro _  rfl _ rfl; refine R.ld Tryz.isAgg3 ?_; refine R.nl ?_; exact Run.loc rfl rfl rfl
               apply TC.val [2, 0]; exact rfl; kernel_rfl
               ·rintro _  rfl _ rfl _ rfl; refine R.cm ?_; refine R.nl ?_; exact Run.loc rfl rfl rfl
               apply TC.val [0]; exact rfl; kernel_rfl
               ·rintro _  rfl _ rfl; refine R.mv ?_; refine R.nl ?_; exact Run.loc rfl rfl rfl
               apply TC.val [0]; exact rfl; kernel_rfl
               ·rintro _  rfl _ rfl; refine R.gF (zg15) ?_; refine R.nl ?_; exact Run.loc rfl rfl rfl
               apply TC.val [1, 0]; exact rfl; kernel_rfl
               ·rintro _  rfl _ rfl _ rfl; refine R.gF (zg15) ?_; refine R.nl ?_; exact Run.loc rfl rfl rfl
               apply TC.val [2]; exact rfl; kernel_rfl
               ·rintro _  rfl _ rfl; refine R.gF (zg15) ?_; refine R.nl ?_; exact Run.loc rfl rfl rfl
               apply TC.val [3, 0]; exact rfl; kernel_rfl
               ·rintro _  rfl _ rfl _ rfl; refine R.gF (zg15) ?_; refine R.nl ?_; exact Run.loc rfl rfl rfl
               apply TC.val [4, 0]; exact rfl; kernel_rfl
               ·rintro _  rfl _ rfl _ rfl; refine R.gF (zg15) ?_; refine R.nl ?_; exact Run.loc rfl rfl rfl
               refine TC.fin (by rfl) ?_; rintro _  rfl _ rfl _ rfl _ rfl _ rfl _ rfl _ rfl _ rfl _ rfl _ rfl _ rfl _ rfl; refine R.gF (zg15) ?_; refine R.pF (zg15) ?_; refine R.as ?_; refine R.nl ?_; refine R.hs (e' := [(75, _)]) ?_; refine R.cF (rfl) ?_; refine R.sq ?_; refine R.rg ?_; refine R.as ?_; refine R.nl ?_; refine R.hs (e' := [(2, _)]) ?_; refine R.rt (RV.t .nil) 2 (congrArg (Value.int .i64) ?_)
               clear hV
               simp only [errA, okR, zeroH, Ht.ext'] at *; grind
            ·refine R.gF (zg13) ?_; refine R.gF (zg13) ?_; refine R.gY (zg12) ?_; refine R.pF (zg13) ?_; refine R.pF (zg12) ?_; refine R.as ?_; refine R.nl ?_; refine R.hs (e' := [(1, _), (46, _)]) ?_; refine R.cF (rfl) ?_; refine R.sq ?_
             rcases Bool.eq_false_or_eq_true (decide (r.me = r.dest)) with zg41 | zg41
             ·refine Run.drawC Grow.eq 11 [(1, _)] mix (by kernel_rfl) (by repeat (first | exact trivial | refine ⟨rfl, ?_⟩)) ?_; apply TC.val []; exact rfl; kernel_rfl
              ·rintro _  rfl ; refine R.fa Tryz.runUnderlying26 Tryz.sizeOf3 ?_; refine R.nl ?_; exact Run.loc rfl rfl rfl
              apply TC.val [0]; exact rfl; kernel_rfl
              ·rintro _  rfl _ rfl; refine R.ld Tryz.isAgg3 ?_; refine R.nl ?_; exact Run.loc rfl rfl rfl
              apply TC.val []; exact rfl; kernel_rfl
              ·rintro _  rfl ; refine R.fa Tryz.runUnderlying26 Tryz.sizeOf3 ?_; refine R.nl ?_; exact Run.loc rfl rfl rfl
              apply TC.val [0]; exact rfl; kernel_rfl
              ·rintro _  rfl _ rfl; refine R.ld Tryz.isAgg3 ?_; refine R.nl ?_; exact Run.loc rfl rfl rfl
              apply TC.val [2, 0]; exact rfl; kernel_rfl
              ·rintro _  rfl _ rfl _ rfl; refine R.cm ?_; refine R.nl ?_; exact Run.loc rfl rfl rfl
              apply TC.val [0]; exact rfl; kernel_rfl
              ·rintro _  rfl _ rfl; refine R.mv ?_; refine R.nl ?_; exact Run.loc rfl rfl rfl
              apply TC.val [0]; exact rfl; kernel_rfl
              ·rintro _  rfl _ rfl; refine R.gY (zg41) ?_; refine R.fa Tryz.runUnderlying26 Tryz.sizeOf23 ?_; refine R.nl ?_; exact Run.loc rfl rfl rfl
              apply TC.val [1, 0]; exact rfl; kernel_rfl
              ·rintro _  rfl _ rfl _ rfl; refine R.gY (zg41) ?_; refine R.lA 6 Tryz.isAgg23 Tryz.sizeOf23 ?_; refine R.nl ?_; exact Run.loc rfl rfl rfl
              apply TC.val [2]; exact rfl; kernel_rfl
              ·rintro _  rfl _ rfl; refine R.gY (zg41) ?_; refine R.fa Tryz.runUnderlying26 Tryz.sizeOf3 ?_; refine R.nl ?_; exact Run.loc rfl rfl rfl
              apply TC.val [3, 0]; exact rfl; kernel_rfl
              ·rintro _  rfl _ rfl _ rfl; refine R.gY (zg41) ?_; refine R.ld Tryz.isAgg3 ?_; refine R.nl ?_; exact Run.loc rfl rfl rfl
              apply TC.val [4, 0]; exact rfl; kernel_rfl
              ·rintro _  rfl _ rfl _ rfl; refine R.gY (zg41) ?_; refine R.cg Tryz.call22 (zero_spec _) ?_; refine R.nl ?_; exact Run.loc rfl rfl rfl
              refine TC.fin (by rfl) ?_; rintro _  rfl _ rfl _ rfl _ rfl _ rfl _ rfl _ rfl _ rfl _ rfl _ rfl _ rfl _ rfl; refine R.gY (zg41) ?_; refine R.na Tryz.eqGuardType23 (eqAt23 _ _ _ _ _ _ _ _ _ _ _ _) ?_; refine R.pT (zg41) ?_; refine R.as ?_; refine R.nl ?_; refine R.hs (e' := [(75, _)]) ?_; refine R.cd (fun zc54 => ?_) (fun zc54 => ?_)
              ·refine Run.skip ?_; refine Run.endBlock ?_; refine R.sq ?_; refine R.rg ?_; refine R.as ?_; refine R.nl ?_; refine R.hs (e' := [(2, _)]) ?_; refine R.rt (RV.t .nil) 2 (congrArg (Value.int .i64) ?_)
               clear hV
               simp only [errA, okR, zeroH, Ht.ext'] at *; grind
              ·refine R.sq ?_; refine R.rg ?_; refine R.as ?_; refine R.nl ?_; refine R.hs (e' := [(2, _)]) ?_; refine R.rt (RV.t .nil) 2 (congrArg (Value.int .i64) ?_)
               clear hV
               simp only [errA, okR, zeroH, Ht.ext'] at *; grind
             ·refine Run.drawC Grow.eq 11 [(1, _)] mix (by kernel_rfl) (by repeat (first | exact trivial | refine ⟨rfl, ?_⟩)) ?_; apply TC.val []; exact rfl; kernel_rfl
              ·rintro _  rfl ; refine R.fa Tryz.runUnderlying26 Tryz.sizeOf3 ?_; refine R.nl ?_; exact Run.loc rfl rfl rfl
              apply TC.val [0]; exact rfl; kernel_rfl
              ·rintro _  rfl _ rfl; refine R.ld Tryz.isAgg3 ?_; refine R.nl ?_; exact Run.loc rfl rfl rfl
              apply TC.val []; exact rfl; kernel_rfl
              ·rintro _  rfl ; refine R.fa Tryz.runUnderlying26 Tryz.sizeOf3 ?_; refine R.nl ?_; exact Run.loc rfl rfl rfl
              apply TC.val [0]; exact rfl; kernel_rfl
              ·rintro _  rfl _ rfl; refine R.ld Tryz.isAgg3 ?_; refine R.nl ?_; exact Run.loc rfl rfl rfl
              apply TC.val [2, 0]; exact rfl; kernel_rfl
              ·rintro _  rfl _ rfl _ rfl; refine R.cm ?_; refine R.nl ?_; exact Run.loc rfl rfl rfl
              apply TC.val [0]; exact rfl; kernel_rfl
              ·rintro _  rfl _ rfl; refine R.mv ?_; refine R.nl ?_; exact Run.loc rfl rfl rfl
              apply TC.val [0]; exact rfl; kernel_rfl
              ·rintro _  rfl _ rfl; refine R.gF (zg41) ?_; refine R.nl ?_; exact Run.loc rfl rfl rfl
              apply TC.val [1, 0]; exact rfl; kernel_rfl
              ·rintro _  rfl _ rfl _ rfl; refine R.gF (zg41) ?_; refine R.nl ?_; exact Run.loc rfl rfl rfl
              apply TC.val [2]; exact rfl; kernel_rfl
              ·rintro _  rfl _ rfl; refine R.gF (zg41) ?_; refine R.nl ?_; exact Run.loc rfl rfl rfl
              apply TC.val [3, 0]; exact rfl; kernel_rfl
              ·rintro _  rfl _ rfl _ rfl; refine R.gF (zg41) ?_; refine R.nl ?_; exact Run.loc rfl rfl rfl
              apply TC.val [4, 0]; exact rfl; kernel_rfl
              ·rintro _  rfl _ rfl _ rfl; refine R.gF (zg41) ?_; refine R.nl ?_; exact Run.loc rfl rfl rfl
              refine TC.fin (by rfl) ?_; rintro _  rfl _ rfl _ rfl _ rfl _ rfl _ rfl _ rfl _ rfl _ rfl _ rfl _ rfl _ rfl; refine R.gF (zg41) ?_; refine R.pF (zg41) ?_; refine R.as ?_; refine R.nl ?_; refine R.hs (e' := [(75, _)]) ?_; refine R.cF (rfl) ?_; refine R.sq ?_; refine R.rg ?_; refine R.as ?_; refine R.nl ?_; refine R.hs (e' := [(2, _)]) ?_; refine R.rt (RV.t .nil) 2 (congrArg (Value.int .i64) ?_)
              clear hV
              simp only [errA, okR, zeroH, Ht.ext'] at *; grind
           ·refine R.gF (zg12) ?_; refine R.gF (zg12) ?_; refine R.gF (zg12) ?_; refine R.gU ?_; refine R.gU ?_; refine R.gU ?_; refine R.gF (zg12) ?_; refine R.pT (zg12) ?_; refine R.as ?_; refine R.nl ?_; refine R.hs (e' := [(1, _), (46, _)]) ?_; refine R.cT (rfl) ?_; refine Run.skip ?_; refine Run.endBlock ?_; refine R.sq ?_; refine R.rg ?_; refine R.as ?_; refine R.nl ?_; refine R.hs (e' := [(2, _)]) ?_; refine R.rt (RV.t .nil) 2 (congrArg (Value.int .i64) ?_)
            clear hV
            simp only [errA, okR, zeroH, Ht.ext'] at *; grind
          ·refine R.gF (zg11) ?_; refine R.gF (zg11) ?_; refine R.pT (zg11) ?_; refine R.mv ?_; refine R.gF (rfl) ?_; refine R.gF (rfl) ?_; refine R.gF (rfl) ?_; refine R.gF (rfl) ?_; refine R.gU ?_; refine R.gU ?_; refine R.gU ?_; refine R.gF (rfl) ?_; refine R.pT (rfl) ?_; refine R.as ?_; refine R.nl ?_; refine R.hs (e' := [(1, _), (46, _)]) ?_; refine R.cT (rfl) ?_; refine Run.skip ?_; refine Run.endBlock ?_; refine R.sq ?_; refine R.rg ?_; refine R.as ?_; refine R.nl ?_; refine R.hs (e' := [(2, _)]) ?_; refine R.rt (RV.t .nil) 2 (congrArg (Value.int .i64) ?_)
           clear hV
           simp only [errA, okR, zeroH, Ht.ext'] at *; grind
         ·refine R.gF (zg10) ?_; refine R.gF (zg10) ?_; refine R.pT (zg10) ?_; refine R.mv ?_; refine R.gF (rfl) ?_; refine R.gF (rfl) ?_; refine R.gF (rfl) ?_; refine R.pT (rfl) ?_; refine R.mv ?_; refine R.gF (rfl) ?_; refine R.gF (rfl) ?_; refine R.gF (rfl) ?_; refine R.gF (rfl) ?_; refine R.gU ?_; refine R.gU ?_; refine R.gU ?_; refine R.gF (rfl) ?_; refine R.pT (rfl) ?_; refine R.as ?_; refine R.nl ?_; refine R.hs (e' := [(1, _), (46, _)]) ?_; refine R.cT (rfl) ?_; refine Run.skip ?_; refine Run.endBlock ?_; refine R.sq ?_; refine R.rg ?_; refine R.as ?_; refine R.nl ?_; refine R.hs (e' := [(2, _)]) ?_; refine R.rt (RV.t .nil) 2 (congrArg (Value.int .i64) ?_)
          clear hV
          simp only [errA, okR, zeroH, Ht.ext'] at *; grind
        ·refine R.gF (zg9) ?_; refine R.gF (zg9) ?_; refine R.gF (zg9) ?_; refine R.pF (zg9) ?_; refine R.mv ?_; refine R.gY (rfl) ?_; refine R.fa Tryz.runUnderlying26 Tryz.sizeOf3 ?_; refine R.gY (rfl) ?_; refine R.ld Tryz.isAgg3 ?_; refine R.gY (rfl) ?_; refine R.cm ?_; refine R.pF (rfl) ?_; refine R.mv ?_; refine R.gd (fun zg67 => ?_) (fun zg67 => ?_)
         ·refine R.fa Tryz.runUnderlying26 Tryz.sizeOf3 ?_; refine R.gY (zg67) ?_; refine R.ld Tryz.isAgg3 ?_; refine R.gY (zg67) ?_; refine R.cm ?_; refine R.pF (zg67) ?_; refine R.mv ?_; refine R.gd (fun zg68 => ?_) (fun zg68 => ?_)
          ·refine R.fa Tryz.runUnderlying26 Tryz.sizeOf3 ?_; refine R.gY (zg68) ?_; refine R.ld Tryz.isAgg3 ?_; refine R.gY (zg68) ?_; refine R.cm ?_; refine R.gY (zg68) ?_; refine R.mv ?_; refine R.gd (fun zg69 => ?_) (fun zg69 => ?_)
           ·refine R.fa Tryz.runUnderlying26 Tryz.sizeOf4 ?_; refine R.gY (zg69) ?_; refine R.ld Tryz.isAgg4 ?_; refine R.gY (zg69) ?_; refine R.nt ?_; refine R.gY (zg68) ?_; refine R.pT (zg69) ?_; refine R.pF (zg68) ?_; refine R.as ?_; refine R.nl ?_; refine R.hs (e' := [(1, _), (46, _)]) ?_; refine R.cd (fun zc70 => ?_) (fun zc70 => ?_)
            ·refine Run.skip ?_; refine Run.endBlock ?_; refine R.sq ?_; refine R.rg ?_; refine R.as ?_; refine R.nl ?_; refine R.hs (e' := [(2, _)]) ?_; refine R.rt (RV.t .nil) 2 (congrArg (Value.int .i64) ?_)
             clear hV
             simp only [errA, okR, zeroH, Ht.ext'] at *; grind
            ·refine R.sq ?_
             rcases Bool.eq_false_or_eq_true (decide (r.me = r.dest)) with zg71 | zg71
             ·refine Run.drawC Grow.eq 11 [(1, _)] mix (by kernel_rfl) (by repeat (first | exact trivial | refine ⟨rfl, ?_⟩)) ?_; apply TC.val []; exact rfl; kernel_rfl
              ·rintro _  rfl ; refine R.fa Tryz.runUnderlying26 Tryz.sizeOf3 ?_; refine R.nl ?_; exact Run.loc rfl rfl rfl
              apply TC.val [0]; exact rfl; kernel_rfl
              ·rintro _  rfl _ rfl; refine R.ld Tryz.isAgg3 ?_; refine R.nl ?_; exact Run.loc rfl rfl rfl
              apply TC.val []; exact rfl; kernel_rfl
              ·rintro _  rfl ; refine R.fa Tryz.runUnderlying26 Tryz.sizeOf3 ?_; refine R.nl ?_; exact Run.loc rfl rfl rfl
              apply TC.val [0]; exact rfl; kernel_rfl
              ·rintro _  rfl _ rfl; refine R.ld Tryz.isAgg3 ?_; refine R.nl ?_; exact Run.loc rfl rfl rfl
              apply TC.val [2, 0]; exact rfl; kernel_rfl
              ·rintro _  rfl _ rfl _ rfl; refine R.cm ?_; refine R.nl ?_; exact Run.loc rfl rfl rfl
              apply TC.val [0]; exact rfl; kernel_rfl
              ·rintro _  rfl _ rfl; refine R.mv ?_; refine R.nl ?_; exact Run.loc rfl rfl rfl
              apply TC.val [0]; exact rfl; kernel_rfl
              ·rintro _  rfl _ rfl; refine R.gY (zg71) ?_; refine R.fa Tryz.runUnderlying26 Tryz.sizeOf23 ?_; refine R.nl ?_; exact Run.loc rfl rfl rfl
              apply TC.val [1, 0]; exact rfl; kernel_rfl
              ·rintro _  rfl _ rfl _ rfl; refine R.gY (zg71) ?_; refine R.lA 6 Tryz.isAgg23 Tryz.sizeOf23 ?_; refine R.nl ?_; exact Run.loc rfl rfl rfl
              apply TC.val [2]; exact rfl; kernel_rfl
              ·rintro _  rfl _ rfl; refine R.gY (zg71) ?_; refine R.fa Tryz.runUnderlying26 Tryz.sizeOf3 ?_; refine R.nl ?_; exact Run.loc rfl rfl rfl
              apply TC.val [3, 0]; exact rfl; kernel_rfl
              ·rintro _  rfl _ rfl _ rfl; refine R.gY (zg71) ?_; refine R.ld Tryz.isAgg3 ?_; refine R.nl ?_; exact Run.loc rfl rfl rfl
              apply TC.val [4, 0]; exact rfl; kernel_rfl
              ·rintro _  rfl _ rfl _ rfl; refine R.gY (zg71) ?_; refine R.cg Tryz.call22 (zero_spec _) ?_; refine R.nl ?_; exact Run.loc rfl rfl rfl
              refine TC.fin (by rfl) ?_; rintro _  rfl _ rfl _ rfl _ rfl _ rfl _ rfl _ rfl _ rfl _ rfl _ rfl _ rfl _ rfl; refine R.gY (zg71) ?_; refine R.na Tryz.eqGuardType23 (eqAt23 _ _ _ _ _ _ _ _ _ _ _ _) ?_; refine R.pT (zg71) ?_; refine R.as ?_; refine R.nl ?_; refine R.hs (e' := [(75, _)]) ?_; refine R.cd (fun zc84 => ?_) (fun zc84 => ?_)
              ·refine Run.skip ?_; refine Run.endBlock ?_; refine R.sq ?_; refine R.rg ?_; refine R.as ?_; refine R.nl ?_; refine R.hs (e' := [(2, _)]) ?_; refine R.rt (RV.t .nil) 2 (congrArg (Value.int .i64) ?_)
               clear hV
               simp only [errA, okR, zeroH, Ht.ext'] at *; grind
              ·refine R.sq ?_; refine R.rg ?_; refine R.as ?_; refine R.nl ?_; refine R.hs (e' := [(2, _)]) ?_; refine R.rt (RV.t .nil) 2 (congrArg (Value.int .i64) ?_)
               clear hV
               simp only [errA, okR, zeroH, Ht.ext'] at *; grind
             ·refine Run.drawC Grow.eq 11 [(1, _)] mix (by kernel_rfl) (by repeat (first | exact trivial | refine ⟨rfl, ?_⟩)) ?_; apply TC.val []; exact rfl; kernel_rfl
              ·rintro _  rfl ; refine R.fa Tryz.runUnderlying26 Tryz.sizeOf3 ?_; refine R.nl ?_; exact Run.loc rfl rfl rfl
              apply TC.val [0]; exact rfl; kernel_rfl
              ·rintro _  rfl _ rfl; refine R.ld Tryz.isAgg3 ?_; refine R.nl ?_; exact Run.loc rfl rfl rfl
              apply TC.val []; exact rfl; kernel_rfl
              ·rintro _  rfl ; refine R.fa Tryz.runUnderlying26 Tryz.sizeOf3 ?_; refine R.nl ?_; exact Run.loc rfl rfl rfl
              apply TC.val [0]; exact rfl; kernel_rfl
              ·rintro _  rfl _ rfl; refine R.ld Tryz.isAgg3 ?_; refine R.nl ?_; exact Run.loc rfl rfl rfl
              apply TC.val [2, 0]; exact rfl; kernel_rfl
              ·rintro _  rfl _ rfl _ rfl; refine R.cm ?_; refine R.nl ?_; exact Run.loc rfl rfl rfl
              apply TC.val [0]; exact rfl; kernel_rfl
              ·rintro _  rfl _ rfl; refine R.mv ?_; refine R.nl ?_; exact Run.loc rfl rfl rfl
              apply TC.val [0]; exact rfl; kernel_rfl
              ·rintro _  rfl _ rfl; refine R.gF (zg71) ?_; refine R.nl ?_; exact Run.loc rfl rfl rfl
              apply TC.val [1, 0]; exact rfl; kernel_rfl
              ·rintro _  rfl _ rfl _ rfl; refine R.gF (zg71) ?_; refine R.nl ?_; exact Run.loc rfl rfl rfl
              apply TC.val [2]; exact rfl; kernel_rfl
              ·rintro _  rfl _ rfl; refine R.gF (zg71) ?_; refine R.nl ?_; exact Run.loc rfl rfl rfl
              apply TC.val [3, 0]; exact rfl; kernel_rfl
              ·rintro _  rfl _ rfl _ rfl; refine R.gF (zg71) ?_; refine R.nl ?_; exact Run.loc rfl rfl rfl
              apply TC.val [4, 0]; exact rfl; kernel_rfl
              ·rintro _  rfl _ rfl _ rfl; refine R.gF (zg71) ?_; refine R.nl ?_; exact Run.loc rfl rfl rfl
              refine TC.fin (by rfl) ?_; rintro _  rfl _ rfl _ rfl _ rfl _ rfl _ rfl _ rfl _ rfl _ rfl _ rfl _ rfl _ rfl; refine R.gF (zg71) ?_; refine R.pF (zg71) ?_; refine R.as ?_; refine R.nl ?_; refine R.hs (e' := [(75, _)]) ?_; refine R.cF (rfl) ?_; refine R.sq ?_; refine R.rg ?_; refine R.as ?_; refine R.nl ?_; refine R.hs (e' := [(2, _)]) ?_; refine R.rt (RV.t .nil) 2 (congrArg (Value.int .i64) ?_)
              clear hV
              simp only [errA, okR, zeroH, Ht.ext'] at *; grind
           ·refine R.gF (zg69) ?_; refine R.gF (zg69) ?_; refine R.gY (zg68) ?_; refine R.pF (zg69) ?_; refine R.pF (zg68) ?_; refine R.as ?_; refine R.nl ?_; refine R.hs (e' := [(1, _), (46, _)]) ?_; refine R.cF (rfl) ?_; refine R.sq ?_
            rcases Bool.eq_false_or_eq_true (decide (r.me = r.dest)) with zg97 | zg97
            ·refine Run.drawC Grow.eq 11 [(1, _)] mix (by kernel_rfl) (by repeat (first | exact trivial | refine ⟨rfl, ?_⟩)) ?_; apply TC.val []; exact rfl; kernel_rfl
             ·rintro _  rfl ; refine R.fa Tryz.runUnderlying26 Tryz.sizeOf3 ?_; refine R.nl ?_; exact Run.loc rfl rfl rfl
             apply TC.val [0]; exact rfl; kernel_rfl
             ·rintro _  rfl _ rfl; refine R.ld Tryz.isAgg3 ?_; refine R.nl ?_; exact Run.loc rfl rfl rfl
             apply TC.val []; exact rfl; kernel_rfl
             ·rintro _  rfl ; refine R.fa Tryz.runUnderlying26 Tryz.sizeOf3 ?_; refine R.nl ?_; exact Run.loc rfl rfl rfl
             apply TC.val [0]; exact rfl; kernel_rfl
             ·rintro _  rfl _ rfl; refine R.ld Tryz.isAgg3 ?_; refine R.nl ?_; exact Run.loc rfl rfl rfl
             apply TC.val [2, 0]; exact rfl; kernel_rfl
             ·rintro _  rfl _ rfl _ rfl; refine R.cm ?_; refine R.nl ?_; exact Run.loc rfl rfl rfl
             apply TC.val [0]; exact rfl; kernel_rfl
             ·rintro _  rfl _ rfl; refine R.mv ?_; refine R.nl ?_; exact Run.loc rfl rfl rfl
             apply TC.val [0]; exact rfl; kernel_rfl
             ·rintro _  rfl _ rfl; refine R.gY (zg97) ?_; refine R.fa Tryz.runUnderlying26 Tryz.sizeOf23 ?_; refine R.nl ?_; exact Run.loc rfl rfl rfl
             apply TC.val [1, 0]; exact rfl; kernel_rfl
             ·rintro _  rfl _ rfl _ rfl; refine R.gY (zg97) ?_; refine R.lA 6 Tryz.isAgg23 Tryz.sizeOf23 ?_; refine R.nl ?_; exact Run.loc rfl rfl rfl
             apply TC.val [2]; exact rfl; kernel_rfl
             ·rintro _  rfl _ rfl; refine R.gY (zg97) ?_; refine R.fa Tryz.runUnderlying26 Tryz.sizeOf3 ?_; refine R.nl ?_; exact Run.loc rfl rfl rfl
             apply TC.val [3, 0]; exact rfl; kernel_rfl
             ·rintro _  rfl _ rfl _ rfl; refine R.gY (zg97) ?_; refine R.ld Tryz.isAgg3 ?_; refine R.nl ?_; exact Run.loc rfl rfl rfl
             apply TC.val [4, 0]; exact rfl; kernel_rfl
             ·rintro _  rfl _ rfl _ rfl; refine R.gY (zg97) ?_; refine R.cg Tryz.call22 (zero_spec _) ?_; refine R.nl ?_; exact Run.loc rfl rfl rfl
             refine TC.fin (by rfl) ?_; rintro _  rfl _ rfl _ rfl _ rfl _ rfl _ rfl _ rfl _ rfl _ rfl _ rfl _ rfl _ rfl; refine R.gY (zg97) ?_; refine R.na Tryz.eqGuardType23 (eqAt23 _ _ _ _ _ _ _ _ _ _ _ _) ?_; refine R.pT (zg97) ?_; refine R.as ?_; refine R.nl ?_; refine R.hs (e' := [(75, _)]) ?_; refine R.cd (fun zc110 => ?_) (fun zc110 => ?_)
             ·refine Run.skip ?_; refine Run.endBlock ?_; refine R.sq ?_; refine R.rg ?_; refine R.as ?_; refine R.nl ?_; refine R.hs (e' := [(2, _)]) ?_; refine R.rt (RV.t .nil) 2 (congrArg (Value.int .i64) ?_)
              clear hV
              simp only [errA, okR, zeroH, Ht.ext'] at *; grind
             ·refine R.sq ?_; refine R.rg ?_; refine R.as ?_; refine R.nl ?_; refine R.hs (e' := [(2, _)]) ?_; refine R.rt (RV.t .nil) 2 (congrArg (Value.int .i64) ?_)
              clear hV
              simp only [errA, okR, zeroH, Ht.ext'] at *; grind
            ·refine Run.drawC Grow.eq 11 [(1, _)] mix (by kernel_rfl) (by repeat (first | exact trivial | refine ⟨rfl, ?_⟩)) ?_; apply TC.val []; exact rfl; kernel_rfl
             ·rintro _  rfl ; refine R.fa Tryz.runUnderlying26 Tryz.sizeOf3 ?_; refine R.nl ?_; exact Run.loc rfl rfl rfl
             apply TC.val [0]; exact rfl; kernel_rfl
             ·rintro _  rfl _ rfl; refine R.ld Tryz.isAgg3 ?_; refine R.nl ?_; exact Run.loc rfl rfl rfl
             apply TC.val []; exact rfl; kernel_rfl
             ·rintro _  rfl ; refine R.fa Tryz.runUnderlying26 Tryz.sizeOf3 ?_; refine R.nl ?_; exact Run.loc rfl rfl rfl
             apply TC.val [0]; exact rfl; kernel_rfl
             ·rintro _  rfl _ rfl; refine R.ld Tryz.isAgg3 ?_; refine R.nl ?_; exact Run.loc rfl rfl rfl
             apply TC.val [2, 0]; exact rfl; kernel_rfl
             ·rintro _  rfl _ rfl _ rfl; refine R.cm ?_; refine R.nl ?_; exact Run.loc rfl rfl rfl
             apply TC.val [0]; exact rfl; kernel_rfl
             ·rintro _  rfl _ rfl; refine R.mv ?_; refine R.nl ?_; exact Run.loc rfl rfl rfl
             apply TC.val [0]; exact rfl; kernel_rfl
             ·rintro _  rfl _ rfl; refine R.gF (zg97) ?_; refine R.nl ?_; exact Run.loc rfl rfl rfl
             apply TC.val [1, 0]; exact rfl; kernel_rfl
             ·rintro _  rfl _ rfl _ rfl; refine R.gF (zg97) ?_; refine R.nl ?_; exact Run.loc rfl rfl rfl
             apply TC.val [2]; exact rfl; kernel_rfl
             ·rintro _  rfl _ rfl; refine R.gF (zg97) ?_; refine R.nl ?_; exact Run.loc rfl rfl rfl
             apply TC.val [3, 0]; exact rfl; kernel_rfl
             ·rintro _  rfl _ rfl _ rfl; refine R.gF (zg97) ?_; refine R.nl ?_; exact Run.loc rfl rfl rfl
             apply TC.val [4, 0]; exact rfl; kernel_rfl
             ·rintro _  rfl _ rfl _ rfl; refine R.gF (zg97) ?_; refine R.nl ?_; exact Run.loc rfl rfl rfl
             refine TC.fin (by rfl) ?_; rintro _  rfl _ rfl _ rfl _ rfl _ rfl _ rfl _ rfl _ rfl _ rfl _ rfl _ rfl _ rfl; refine R.gF (zg97) ?_; refine R.pF (zg97) ?_; refine R.as ?_; refine R.nl ?_; refine R.hs (e' := [(75, _)]) ?_; refine R.cF (rfl) ?_; refine R.sq ?_; refine R.rg ?_; refine R.as ?_; refine R.nl ?_; refine R.hs (e' := [(2, _)]) ?_; refine R.rt (RV.t .nil) 2 (congrArg (Value.int .i64) ?_)
             clear hV
             simp only [errA, okR, zeroH, Ht.ext'] at *; grind
          ·refine R.gF (zg68) ?_; refine R.gF (zg68) ?_; refine R.gF (zg68) ?_; refine R.gU ?_; refine R.gU ?_; refine R.gU ?_; refine R.gF (zg68) ?_; refine R.pT (zg68) ?_; refine R.as ?_; refine R.nl ?_; refine R.hs (e' := [(1, _), (46, _)]) ?_; refine R.cT (rfl) ?_; refine Run.skip ?_; refine Run.endBlock ?_; refine R.sq ?_; refine R.rg ?_; refine R.as ?_; refine R.nl ?_; refine R.hs (e' := [(2, _)]) ?_; refine R.rt (RV.t .nil) 2 (congrArg (Value.int .i64) ?_)
           clear hV
           simp only [errA, okR, zeroH, Ht.ext'] at *; grind
         ·refine R.gF (zg67) ?_; refine R.gF (zg67) ?_; refine R.pT (zg67) ?_; refine R.mv ?_; refine R.gF (rfl) ?_; refine R.gF (rfl) ?_; refine R.gF (rfl) ?_; refine R.gF (rfl) ?_; refine R.gU ?_; refine R.gU ?_; refine R.gU ?_; refine R.gF (rfl) ?_; refine R.pT (rfl) ?_; refine R.as ?_; refine R.nl ?_; refine R.hs (e' := [(1, _), (46, _)]) ?_; refine R.cT (rfl) ?_; refine Run.skip ?_; refine Run.endBlock ?_; refine R.sq ?_; refine R.rg ?_; refine R.as ?_; refine R.nl ?_; refine R.hs (e' := [(2, _)]) ?_; refine R.rt (RV.t .nil) 2 (congrArg (Value.int .i64) ?_)
          clear hV
          simp only [errA, okR, zeroH, Ht.ext'] at *; grind
      ·refine R.gF (zg7) ?_; refine R.gF (zg7) ?_; refine R.gF (zg7) ?_; refine R.pT (zg7) ?_; refine R.as ?_; refine R.nl ?_; refine R.hs (e' := [(1, _), (35, _)]) ?_; refine R.cT (rfl) ?_; refine Run.skip ?_; refine Run.endBlock ?_; refine R.sq ?_; refine R.rg ?_; refine R.as ?_; refine R.nl ?_; refine R.hs (e' := [(2, _)]) ?_; refine R.rt (RV.t .nil) 2 (congrArg (Value.int .i64) ?_)
       clear hV
       simp only [errA, okR, zeroH, Ht.ext'] at *; grind
    ·refine R.pT (zg5) ?_; refine R.as ?_; refine R.nl ?_; refine R.hs (e' := [(1, _), (13, _)]) ?_; refine R.cT (rfl) ?_; refine Run.skip ?_; refine Run.endBlock ?_; refine R.sq ?_; refine R.rg ?_; refine R.as ?_; refine R.nl ?_; refine R.hs (e' := [(2, _)]) ?_; refine R.rt (RV.t .nil) 2 (congrArg (Value.int .i64) ?_)
     clear hV
     simp only [errA, okR, zeroH, Ht.ext'] at *; grind
   ·refine R.gF (zg4) ?_; refine R.gF (zg4) ?_; refine R.gF (zg4) ?_; refine R.gF (zg4) ?_; refine R.gF (zg4) ?_; refine R.pT (zg4) ?_; refine R.mv ?_; refine R.gF (rfl) ?_; refine R.pT (rfl) ?_; refine R.as ?_; refine R.nl ?_; refine R.hs (e' := [(1, _), (13, _)]) ?_; refine R.cT (rfl) ?_; refine Run.skip ?_; refine Run.endBlock ?_; refine R.sq ?_; refine R.rg ?_; refine R.as ?_; refine R.nl ?_; refine R.hs (e' := [(2, _)]) ?_; refine R.rt (RV.t .nil) 2 (congrArg (Value.int .i64) ?_)
    clear hV
    simp only [errA, okR, zeroH, Ht.ext'] at *; grind
  ·refine R.gF (zg3) ?_; refine R.gF (zg3) ?_; refine R.gF (zg3) ?_; refine R.pT (zg3) ?_; refine R.mv ?_; refine R.gF (rfl) ?_; refine R.gF (rfl) ?_; refine R.gF (rfl) ?_; refine R.gF (rfl) ?_; refine R.gF (rfl) ?_; refine R.gF (rfl) ?_; refine R.pT (rfl) ?_; refine R.mv ?_; refine R.gF (rfl) ?_; refine R.pT (rfl) ?_; refine R.as ?_; refine R.nl ?_; refine R.hs (e' := [(1, _), (13, _)]) ?_; refine R.cT (rfl) ?_; refine Run.skip ?_; refine Run.endBlock ?_; refine R.sq ?_; refine R.rg ?_; refine R.as ?_; refine R.nl ?_; refine R.hs (e' := [(2, _)]) ?_; refine R.rt (RV.t .nil) 2 (congrArg (Value.int .i64) ?_)
   clear hV
   simp only [errA, okR, zeroH, Ht.ext'] at *; grind
end Go.Proofs.YtgdpjpmjcpieiaaGreat

/- Objects: which are right, by the program and by the document. No condition. -/
namespace Go.Proofs.YtgdpjpmjcpieiaaGreat
open Go
set_option linter.unusedVariables false
set_option linter.unusedSimpArgs false
set_option maxRecDepth 100000
set_option maxHeartbeats 0
theorem refOk_spec {g : Gl} {D : Dict} {M : MList} (o : Ob) : Gives Tryz.prog g 84 [.agg (Ob.cells o).toArray] D M (.bool (okO o)) := by
  refine Gives.enter Tryz.func84 rfl Tryz.ntmps84 ?_; refine R.sq ?_; refine R.rg ?_; refine R.bxA (fun zb1 hzb1 => ?_); refine R.as ?_; refine R.nl ?_; refine R.hs (e' := [(1, _)]) ?_; refine R.sq ?_; refine R.sq ?_; refine R.rg ?_; refine R.fa Tryz.runUnderlying30 Tryz.sizeOf3 ?_; refine R.ld Tryz.isAgg3 ?_; refine R.cm ?_; refine R.mv ?_; refine R.gd (fun zg2 => ?_) (fun zg2 => ?_)
  ·refine R.fa Tryz.runUnderlying30 Tryz.sizeOf3 ?_; refine R.gY (zg2) ?_; refine R.ld Tryz.isAgg3 ?_; refine R.gY (zg2) ?_; refine R.cm ?_; refine R.pF (zg2) ?_; refine R.nl ?_; refine R.hs (e' := [(1, _), (12, _)]) ?_; refine R.cd (fun zc3 => ?_) (fun zc3 => ?_)
   ·refine R.sq ?_; refine R.rg ?_; refine R.as ?_; refine R.nl ?_; refine R.hs (e' := [(2, _)]) ?_; refine R.rt (RV.t .nil) 1 (congrArg Value.bool ?_)
    simp only [Ht.eta, okO, toldH, Ht.ext', Lv.ext'] at * <;> grind
   ·refine Run.skip ?_; refine R.sq ?_; refine R.rg ?_; refine R.fa Tryz.runUnderlying30 Tryz.sizeOf28 ?_; refine R.lA 3 Tryz.isAgg28 Tryz.sizeOf28 ?_; refine R.bd Tryz.zeroValue28 places28 ?_; refine R.ea Tryz.eqGuardType28 (eqAt28 _ _ _ _ _ _) ?_; refine R.as ?_; refine R.nl ?_; refine R.hs (e' := [(1, _), (3, _)]) ?_; refine R.sq ?_; refine R.rg ?_; refine R.fa Tryz.runUnderlying30 Tryz.sizeOf23 ?_; refine R.lA 6 Tryz.isAgg23 Tryz.sizeOf23 ?_; refine R.bd Tryz.zeroValue23 places23 ?_; refine R.ea Tryz.eqGuardType23 (eqAt23 _ _ _ _ _ _ _ _ _ _ _ _) ?_; refine R.as ?_; refine R.nl ?_; refine R.hs (e' := [(1, _), (3, _), (4, _)]) ?_; refine R.sq ?_; refine R.sq ?_; refine R.rg ?_; refine R.fa Tryz.runUnderlying30 Tryz.sizeOf3 ?_; refine R.ld Tryz.isAgg3 ?_; refine R.nl ?_; refine R.hs (e' := [(1, _), (3, _), (4, _), (22, _)]) ?_; refine Run.block ?_; refine R.sq ?_; refine R.rg ?_
    refine R.cm ?_; refine R.as ?_; refine R.nl ?_; refine R.hs (e' := [(1, _), (3, _), (4, _), (22, _), (23, _)]) ?_; refine R.cd (fun zc4 => ?_) (fun zc4 => ?_)
    ·refine R.sq ?_; refine R.rg ?_; refine R.mv ?_; refine R.mv ?_; refine R.gd (fun zg5 => ?_) (fun zg5 => ?_)
     ·refine R.mv ?_; refine R.pT (zg5) ?_; refine R.mv ?_; refine R.gd (fun zg6 => ?_) (fun zg6 => ?_)
      ·refine R.fa Tryz.runUnderlying30 Tryz.sizeOf3 ?_; refine R.gY (zg6) ?_; refine R.ld Tryz.isAgg3 ?_; refine R.gY (zg6) ?_; refine R.cm ?_; refine R.pT (zg6) ?_; refine R.as ?_; refine R.nl ?_; refine R.hs (e' := [(2, _)]) ?_; refine R.rt (RV.t .nil) 1 (congrArg Value.bool ?_)
       simp only [Ht.eta, okO, toldH, Ht.ext', Lv.ext'] at * <;> grind
      ·refine R.gF (zg6) ?_; refine R.gF (zg6) ?_; refine R.pF (zg6) ?_; refine R.as ?_; refine R.nl ?_; refine R.hs (e' := [(2, _)]) ?_; refine R.rt (RV.t .nil) 1 (congrArg Value.bool ?_)
       simp only [Ht.eta, okO, toldH, Ht.ext', Lv.ext'] at * <;> grind
     ·refine R.pF (zg5) ?_; refine R.mv ?_; refine R.gF (rfl) ?_; refine R.gF (rfl) ?_; refine R.gF (rfl) ?_; refine R.pF (rfl) ?_; refine R.as ?_; refine R.nl ?_; refine R.hs (e' := [(2, _)]) ?_; refine R.rt (RV.t .nil) 1 (congrArg Value.bool ?_)
      simp only [Ht.eta, okO, toldH, Ht.ext', Lv.ext'] at * <;> grind
    ·refine R.sq ?_; refine R.rg ?_; refine R.cm ?_; refine R.as ?_; refine R.nl ?_; refine R.hs (e' := [(1, _), (3, _), (4, _), (22, _), (34, _)]) ?_; refine R.cd (fun zc7 => ?_) (fun zc7 => ?_)
     ·refine R.sq ?_; refine R.rg ?_; refine R.mv ?_; refine R.mv ?_; refine R.gd (fun zg8 => ?_) (fun zg8 => ?_)
      ·refine R.fa Tryz.runUnderlying30 Tryz.sizeOf3 ?_; refine R.gY (zg8) ?_; refine R.ld Tryz.isAgg3 ?_; refine R.gY (zg8) ?_; refine R.cm ?_; refine R.pT (zg8) ?_; refine R.mv ?_; refine R.gd (fun zg9 => ?_) (fun zg9 => ?_)
       ·refine R.fa Tryz.runUnderlying30 Tryz.sizeOf23 ?_; refine R.gY (zg9) ?_; refine R.lA 6 Tryz.isAgg23 Tryz.sizeOf23 ?_; refine R.gY (zg9) ?_; refine R.cg Tryz.call47 (refRight_spec ⟨_, _, _, _, _, _⟩) ?_; refine R.pT (zg9) ?_; refine R.as ?_; refine R.nl ?_; refine R.hs (e' := [(2, _)]) ?_; refine R.rt (RV.t .nil) 1 (congrArg Value.bool ?_)
        simp only [Ht.eta, okO, toldH, Ht.ext', Lv.ext'] at * <;> grind
       ·refine R.gF (zg9) ?_; refine R.gF (zg9) ?_; refine R.pF (zg9) ?_; refine R.as ?_; refine R.nl ?_; refine R.hs (e' := [(2, _)]) ?_; refine R.rt (RV.t .nil) 1 (congrArg Value.bool ?_)
        simp only [Ht.eta, okO, toldH, Ht.ext', Lv.ext'] at * <;> grind
      ·refine R.gF (zg8) ?_; refine R.gF (zg8) ?_; refine R.pF (zg8) ?_; refine R.mv ?_; refine R.gF (rfl) ?_; refine R.gF (rfl) ?_; refine R.gF (rfl) ?_; refine R.pF (rfl) ?_; refine R.as ?_; refine R.nl ?_; refine R.hs (e' := [(2, _)]) ?_; refine R.rt (RV.t .nil) 1 (congrArg Value.bool ?_)
       simp only [Ht.eta, okO, toldH, Ht.ext', Lv.ext'] at * <;> grind
     ·refine R.sq ?_; refine R.rg ?_; refine R.cm ?_; refine R.as ?_; refine R.nl ?_; refine R.hs (e' := [(1, _), (3, _), (4, _), (22, _), (47, _)]) ?_; refine R.cd (fun zc10 => ?_) (fun zc10 => ?_)
      ·refine R.sq ?_; refine R.rg ?_; refine R.mv ?_; refine R.mv ?_; refine R.gd (fun zg11 => ?_) (fun zg11 => ?_)
       ·refine R.fa Tryz.runUnderlying30 Tryz.sizeOf3 ?_; refine R.gY (zg11) ?_; refine R.ld Tryz.isAgg3 ?_; refine R.gY (zg11) ?_; refine R.cm ?_; refine R.pT (zg11) ?_; refine R.mv ?_; refine R.gd (fun zg12 => ?_) (fun zg12 => ?_)
        ·refine R.fa Tryz.runUnderlying30 Tryz.sizeOf28 ?_; refine R.gY (zg12) ?_; refine R.fa Tryz.runUnderlying28 Tryz.sizeOf3 ?_; refine R.gY (zg12) ?_; refine R.ld Tryz.isAgg3 ?_; refine R.gY (zg12) ?_; refine R.fa Tryz.runUnderlying30 Tryz.sizeOf28 ?_; refine R.gY (zg12) ?_; refine R.fa Tryz.runUnderlying28 Tryz.sizeOf3 ?_; refine R.gY (zg12) ?_; refine R.ld Tryz.isAgg3 ?_; refine R.gY (zg12) ?_; refine R.fa Tryz.runUnderlying30 Tryz.sizeOf28 ?_; refine R.gY (zg12) ?_; refine R.fa Tryz.runUnderlying28 Tryz.sizeOf3 ?_; refine R.gY (zg12) ?_; refine R.ld Tryz.isAgg3 ?_; refine R.gY (zg12) ?_; refine R.bd Tryz.zeroValue23 places23 ?_; refine R.gY (zg12) ?_; refine R.cg Tryz.call47 (refRight_spec ⟨_, _, _, _, _, _⟩) ?_; refine R.pT (zg12) ?_; refine R.as ?_; refine R.nl ?_; refine R.hs (e' := [(2, _)]) ?_; refine R.rt (RV.t .nil) 1 (congrArg Value.bool ?_)
         simp only [Ht.eta, okO, toldH, Ht.ext', Lv.ext'] at * <;> grind
        ·refine R.gF (zg12) ?_; refine R.gF (zg12) ?_; refine R.gF (zg12) ?_; refine R.gF (zg12) ?_; refine R.gF (zg12) ?_; refine R.gF (zg12) ?_; refine R.gF (zg12) ?_; refine R.gF (zg12) ?_; refine R.gF (zg12) ?_; refine R.gF (zg12) ?_; refine R.pF (zg12) ?_; refine R.as ?_; refine R.nl ?_; refine R.hs (e' := [(2, _)]) ?_; refine R.rt (RV.t .nil) 1 (congrArg Value.bool ?_)
         simp only [Ht.eta, okO, toldH, Ht.ext', Lv.ext'] at * <;> grind
       ·refine R.gF (zg11) ?_; refine R.gF (zg11) ?_; refine R.pF (zg11) ?_; refine R.mv ?_; refine R.gF (rfl) ?_; refine R.gF (rfl) ?_; refine R.gF (rfl) ?_; refine R.gF (rfl) ?_; refine R.gF (rfl) ?_; refine R.gF (rfl) ?_; refine R.gF (rfl) ?_; refine R.gF (rfl) ?_; refine R.gF (rfl) ?_; refine R.gF (rfl) ?_; refine R.gF (rfl) ?_; refine R.pF (rfl) ?_; refine R.as ?_; refine R.nl ?_; refine R.hs (e' := [(2, _)]) ?_; refine R.rt (RV.t .nil) 1 (congrArg Value.bool ?_)
        simp only [Ht.eta, okO, toldH, Ht.ext', Lv.ext'] at * <;> grind
      ·refine R.sq ?_; refine R.rg ?_; refine R.cm ?_; refine R.as ?_; refine R.nl ?_; refine R.hs (e' := [(1, _), (3, _), (68, _)]) ?_; refine R.cd (fun zc13 => ?_) (fun zc13 => ?_)
       ·refine R.sq ?_; refine R.rg ?_; refine R.mv ?_; refine R.mv ?_; refine R.gd (fun zg14 => ?_) (fun zg14 => ?_)
        ·refine R.fa Tryz.runUnderlying30 Tryz.sizeOf3 ?_; refine R.gY (zg14) ?_; refine R.ld Tryz.isAgg3 ?_; refine R.gY (zg14) ?_; refine R.cm ?_; refine R.pT (zg14) ?_; refine R.mv ?_; refine R.gd (fun zg15 => ?_) (fun zg15 => ?_)
         ·refine R.fa Tryz.runUnderlying30 Tryz.sizeOf3 ?_; refine R.gY (zg15) ?_; refine R.ld Tryz.isAgg3 ?_; refine R.gY (zg15) ?_; refine R.cm ?_; refine R.pT (zg15) ?_; refine R.mv ?_; refine R.gd (fun zg16 => ?_) (fun zg16 => ?_)
          ·refine R.fa Tryz.runUnderlying30 Tryz.sizeOf23 ?_; refine R.gY (zg16) ?_; refine R.lA 6 Tryz.isAgg23 Tryz.sizeOf23 ?_; refine R.gY (zg16) ?_; refine R.cg Tryz.call111 (refTold_spec ⟨_, _, _, _, _, _⟩) ?_; refine R.pT (zg16) ?_; refine R.as ?_; refine R.nl ?_; refine R.hs (e' := [(2, _)]) ?_; refine R.rt (RV.t .nil) 1 (congrArg Value.bool ?_)
           simp only [Ht.eta, okO, toldH, Ht.ext', Lv.ext'] at * <;> grind
          ·refine R.gF (zg16) ?_; refine R.gF (zg16) ?_; refine R.pF (zg16) ?_; refine R.as ?_; refine R.nl ?_; refine R.hs (e' := [(2, _)]) ?_; refine R.rt (RV.t .nil) 1 (congrArg Value.bool ?_)
           simp only [Ht.eta, okO, toldH, Ht.ext', Lv.ext'] at * <;> grind
         ·refine R.gF (zg15) ?_; refine R.gF (zg15) ?_; refine R.pF (zg15) ?_; refine R.mv ?_; refine R.gF (rfl) ?_; refine R.gF (rfl) ?_; refine R.gF (rfl) ?_; refine R.pF (rfl) ?_; refine R.as ?_; refine R.nl ?_; refine R.hs (e' := [(2, _)]) ?_; refine R.rt (RV.t .nil) 1 (congrArg Value.bool ?_)
          simp only [Ht.eta, okO, toldH, Ht.ext', Lv.ext'] at * <;> grind
        ·refine R.gF (zg14) ?_; refine R.gF (zg14) ?_; refine R.pF (zg14) ?_; refine R.mv ?_; refine R.gF (rfl) ?_; refine R.gF (rfl) ?_; refine R.gF (rfl) ?_; refine R.pF (rfl) ?_; refine R.mv ?_; refine R.gF (rfl) ?_; refine R.gF (rfl) ?_; refine R.gF (rfl) ?_; refine R.pF (rfl) ?_; refine R.as ?_; refine R.nl ?_; refine R.hs (e' := [(2, _)]) ?_; refine R.rt (RV.t .nil) 1 (congrArg Value.bool ?_)
         simp only [Ht.eta, okO, toldH, Ht.ext', Lv.ext'] at * <;> grind
       ·refine Run.skip ?_; refine Run.endBlock ?_; refine R.sq ?_; refine R.rg ?_; refine R.as ?_; refine R.nl ?_; refine R.hs (e' := [(2, _)]) ?_; refine R.rt (RV.t .nil) 1 (congrArg Value.bool ?_)
        simp only [Ht.eta, okO, toldH, Ht.ext', Lv.ext'] at * <;> grind
  ·refine R.gF (zg2) ?_; refine R.gF (zg2) ?_; refine R.pT (zg2) ?_; refine R.nl ?_; refine R.hs (e' := [(1, _), (12, _)]) ?_; refine R.cT (rfl) ?_; refine R.sq ?_; refine R.rg ?_; refine R.as ?_; refine R.nl ?_; refine R.hs (e' := [(2, _)]) ?_; refine R.rt (RV.t .nil) 1 (congrArg Value.bool ?_)
   simp only [Ht.eta, okO, toldH, Ht.ext', Lv.ext'] at * <;> grind
theorem oCheck_spec {g : Gl} {D : Dict} {M : MList} (o : Ob) : Gives Tryz.prog g 20 [.agg (Ob.cells o).toArray] D M (.int .i64 (errA (okO o))) := by
  refine Gives.enter Tryz.func20 rfl Tryz.ntmps20 ?_; refine R.sq ?_; refine R.rg ?_; refine R.bxA (fun zb1 hzb1 => ?_); refine R.as ?_; refine R.nl ?_; refine R.hs (e' := [(1, _)]) ?_; refine R.sq ?_; refine R.rg ?_; refine R.lA 12 Tryz.isAgg30 Tryz.sizeOf30 ?_; refine R.alA Tryz.zeroValue30 (fun zb2 hzb2 => ?_); refine R.st Tryz.sizeOf30 ?_; refine R.nl ?_; refine R.hs (e' := [(1, _), (3, _)]) ?_; refine R.sq ?_; refine R.rg ?_; refine R.fa Tryz.runUnderlying30 Tryz.sizeOf3 ?_; refine R.st Tryz.sizeOf3 ?_; refine R.fa Tryz.runUnderlying30 Tryz.sizeOf3 ?_; refine R.st Tryz.sizeOf3 ?_; refine R.nl ?_; refine R.hs (e' := [(1, _), (3, _)]) ?_; refine R.sq ?_; refine R.rg ?_; refine R.fa Tryz.runUnderlying30 Tryz.sizeOf3 ?_; refine R.ld Tryz.isAgg3 ?_; refine R.cm ?_; refine R.mv ?_; refine R.gd (fun zg3 => ?_) (fun zg3 => ?_)
  ·refine R.fa Tryz.runUnderlying30 Tryz.sizeOf3 ?_; refine R.gY (zg3) ?_; refine R.ld Tryz.isAgg3 ?_; refine R.gY (zg3) ?_; refine R.cm ?_; refine R.pT (zg3) ?_; refine R.as ?_; refine R.nl ?_; refine R.hs (e' := [(1, _), (3, _), (4, _)]) ?_; refine R.sq ?_; refine R.sq ?_; refine R.rg ?_; refine R.fa Tryz.runUnderlying30 Tryz.sizeOf3 ?_; refine R.ld Tryz.isAgg3 ?_; refine R.nl ?_; refine R.hs (e' := [(1, _), (3, _), (4, _), (19, _)]) ?_; refine Run.block ?_; refine R.sq ?_; refine Run.block ?_; refine R.sq ?_; refine Run.block ?_; refine R.sq ?_; refine Run.block ?_; refine R.sq ?_; refine Run.block ?_; refine R.sq ?_; refine Run.block ?_; refine R.sq ?_; refine R.sq ?_; refine R.sq ?_; refine R.rg ?_; refine R.cm ?_; refine R.as ?_; refine R.nl ?_; refine R.hs (e' := [(1, _), (3, _), (4, _), (19, _), (20, _)]) ?_; refine R.cd (fun zc4 => ?_) (fun zc4 => ?_)
   ·refine Run.exit rfl ?_; refine Run.exit rfl ?_; refine R.sq ?_; refine R.sq ?_; refine R.rg ?_; refine R.mv ?_; refine R.nt ?_; refine R.mv ?_; refine R.gd (fun zg5 => ?_) (fun zg5 => ?_)
    ·refine R.lA 12 Tryz.isAgg30 Tryz.sizeOf30 ?_; refine R.gY (zg5) ?_; refine R.bd Tryz.zeroValue30 places30 ?_; refine R.gY (zg5) ?_; refine R.na Tryz.eqGuardType30 (eqAt30 _ _ _ _ _ _ _ _ _ _ _ _ _ _ _ _ _ _ _ _ _ _ _ _) ?_; refine R.pF (zg5) ?_; refine R.nl ?_; refine R.hs (e' := [(74, _)]) ?_; refine R.cd (fun zc6 => ?_) (fun zc6 => ?_)
     ·refine R.sq ?_; refine R.rg ?_; refine R.as ?_; refine R.nl ?_; refine R.hs (e' := [(2, _)]) ?_; refine R.rt (RV.t .nil) 2 (congrArg (Value.int .i64) ?_)
      simp only [Ht.eta, errA, okO, Ht.ext', Lv.ext', atH] at * <;> grind
     ·refine Run.skip ?_; refine R.sq ?_; refine R.rg ?_; refine R.as ?_; refine R.nl ?_; refine R.hs (e' := [(2, _)]) ?_; refine R.rt (RV.t .nil) 2 (congrArg (Value.int .i64) ?_)
      simp only [Ht.eta, errA, okO, Ht.ext', Lv.ext', atH] at * <;> grind
    ·refine R.gF (zg5) ?_; refine R.gF (zg5) ?_; refine R.pT (zg5) ?_; refine R.nl ?_; refine R.hs (e' := [(74, _)]) ?_; refine R.cT (rfl) ?_; refine R.sq ?_; refine R.rg ?_; refine R.as ?_; refine R.nl ?_; refine R.hs (e' := [(2, _)]) ?_; refine R.rt (RV.t .nil) 2 (congrArg (Value.int .i64) ?_)
     simp only [Ht.eta, errA, okO, Ht.ext', Lv.ext', atH] at * <;> grind
   ·refine Run.skip ?_; refine R.sq ?_; refine R.sq ?_; refine R.rg ?_; refine R.cm ?_; refine R.as ?_; refine R.nl ?_; refine R.hs (e' := [(1, _), (3, _), (4, _), (19, _), (22, _)]) ?_; refine R.cd (fun zc7 => ?_) (fun zc7 => ?_)
    ·refine Run.exit rfl ?_; refine R.sq ?_; refine R.rg ?_; refine R.mv ?_; refine R.mv ?_; refine R.gd (fun zg8 => ?_) (fun zg8 => ?_)
     ·refine R.fa Tryz.runUnderlying30 Tryz.sizeOf23 ?_; refine R.gY (zg8) ?_; refine R.fa Tryz.runUnderlying23 Tryz.sizeOf4 ?_; refine R.gY (zg8) ?_; refine R.ld Tryz.isAgg4 ?_; refine R.gY (zg8) ?_; refine R.nt ?_; refine R.pT (zg8) ?_; refine R.mv ?_; refine R.gd (fun zg9 => ?_) (fun zg9 => ?_)
      ·refine R.fa Tryz.runUnderlying30 Tryz.sizeOf3 ?_; refine R.gY (zg9) ?_; refine R.ld Tryz.isAgg3 ?_; refine R.gY (zg9) ?_; refine R.cm ?_; refine R.pT (zg9) ?_; refine R.mv ?_; refine R.gd (fun zg10 => ?_) (fun zg10 => ?_)
       ·refine R.fa Tryz.runUnderlying30 Tryz.sizeOf3 ?_; refine R.gY (zg10) ?_; refine R.ld Tryz.isAgg3 ?_; refine R.gY (zg10) ?_; refine R.cm ?_; refine R.pT (zg10) ?_; refine R.as ?_; refine R.nl ?_; refine R.hs (e' := [(1, _), (3, _), (4, _)]) ?_; refine R.rg ?_; refine R.fa Tryz.runUnderlying30 Tryz.sizeOf3 ?_; refine R.st Tryz.sizeOf3 ?_; refine R.nl ?_; refine R.hs (e' := [(1, _), (3, _), (4, _)]) ?_; refine Run.endBlock ?_; refine R.sq ?_; refine R.sq ?_; refine R.rg ?_; refine R.mv ?_; refine R.mv ?_; refine R.gd (fun zg11 => ?_) (fun zg11 => ?_)
        ·refine R.fa Tryz.runUnderlying30 Tryz.sizeOf23 ?_; refine R.gY (zg11) ?_; refine R.lA 6 Tryz.isAgg23 Tryz.sizeOf23 ?_; refine R.gY (zg11) ?_; refine R.cg Tryz.call44 (hCheck_spec ⟨_, _, _, _, _, _⟩) ?_; refine R.gY (zg11) ?_; refine R.cm ?_; refine R.pT (zg11) ?_; refine R.as ?_; refine R.nl ?_; refine R.hs (e' := [(3, _), (4, _)]) ?_; refine R.rg ?_; refine R.bd Tryz.zeroValue23 places23 ?_; refine R.fa Tryz.runUnderlying30 Tryz.sizeOf23 ?_; refine R.st Tryz.sizeOf23 ?_; refine R.nl ?_; refine R.hs (e' := [(3, _), (4, _)]) ?_; refine Run.exit rfl ?_; refine R.sq ?_; refine R.sq ?_; refine R.rg ?_; refine R.mv ?_; refine R.nt ?_; refine R.mv ?_; refine R.gd (fun zg12 => ?_) (fun zg12 => ?_)
         ·refine R.lA 12 Tryz.isAgg30 Tryz.sizeOf30 ?_; refine R.gY (zg12) ?_; refine R.bd Tryz.zeroValue30 places30 ?_; refine R.gY (zg12) ?_; refine R.na Tryz.eqGuardType30 (eqAt30 _ _ _ _ _ _ _ _ _ _ _ _ _ _ _ _ _ _ _ _ _ _ _ _) ?_; refine R.pF (zg12) ?_; refine R.nl ?_; refine R.hs (e' := [(74, _)]) ?_; refine R.cd (fun zc13 => ?_) (fun zc13 => ?_)
          ·refine R.sq ?_; refine R.rg ?_; refine R.as ?_; refine R.nl ?_; refine R.hs (e' := [(2, _)]) ?_; refine R.rt (RV.t .nil) 2 (congrArg (Value.int .i64) ?_)
           simp only [Ht.eta, errA, okO, Ht.ext', Lv.ext', atH] at * <;> grind
          ·refine Run.skip ?_; refine R.sq ?_; refine R.rg ?_; refine R.as ?_; refine R.nl ?_; refine R.hs (e' := [(2, _)]) ?_; refine R.rt (RV.t .nil) 2 (congrArg (Value.int .i64) ?_)
           simp only [Ht.eta, errA, okO, Ht.ext', Lv.ext', atH] at * <;> grind
         ·refine R.gF (zg12) ?_; refine R.gF (zg12) ?_; refine R.pT (zg12) ?_; refine R.nl ?_; refine R.hs (e' := [(74, _)]) ?_; refine R.cT (rfl) ?_; refine R.sq ?_; refine R.rg ?_; refine R.as ?_; refine R.nl ?_; refine R.hs (e' := [(2, _)]) ?_; refine R.rt (RV.t .nil) 2 (congrArg (Value.int .i64) ?_)
          simp only [Ht.eta, errA, okO, Ht.ext', Lv.ext', atH] at * <;> grind
        ·refine R.gF (zg11) ?_; refine R.gF (zg11) ?_; refine R.gF (zg11) ?_; refine R.pF (zg11) ?_; refine R.as ?_; refine R.nl ?_; refine R.hs (e' := [(3, _), (4, _)]) ?_; refine R.rg ?_; refine R.bd Tryz.zeroValue23 places23 ?_; refine R.fa Tryz.runUnderlying30 Tryz.sizeOf23 ?_; refine R.st Tryz.sizeOf23 ?_; refine R.nl ?_; refine R.hs (e' := [(3, _), (4, _)]) ?_; refine Run.exit rfl ?_; refine R.sq ?_; refine R.sq ?_; refine R.rg ?_; refine R.mv ?_; refine R.nt ?_; refine R.mv ?_; refine R.gF (rfl) ?_; refine R.gF (rfl) ?_; refine R.gF (rfl) ?_; refine R.pT (rfl) ?_; refine R.nl ?_; refine R.hs (e' := [(74, _)]) ?_; refine R.cT (rfl) ?_; refine R.sq ?_; refine R.rg ?_; refine R.as ?_; refine R.nl ?_; refine R.hs (e' := [(2, _)]) ?_; refine R.rt (RV.t .nil) 2 (congrArg (Value.int .i64) ?_)
         simp only [Ht.eta, errA, okO, Ht.ext', Lv.ext', atH] at * <;> grind
       ·refine R.gF (zg10) ?_; refine R.gF (zg10) ?_; refine R.pF (zg10) ?_; refine R.as ?_; refine R.nl ?_; refine R.hs (e' := [(1, _), (3, _), (4, _)]) ?_; refine R.rg ?_; refine R.fa Tryz.runUnderlying30 Tryz.sizeOf3 ?_; refine R.st Tryz.sizeOf3 ?_; refine R.nl ?_; refine R.hs (e' := [(1, _), (3, _), (4, _)]) ?_; refine Run.endBlock ?_; refine R.sq ?_; refine R.sq ?_; refine R.rg ?_; refine R.mv ?_; refine R.mv ?_; refine R.gF (rfl) ?_; refine R.gF (rfl) ?_; refine R.gF (rfl) ?_; refine R.gF (rfl) ?_; refine R.pF (rfl) ?_; refine R.as ?_; refine R.nl ?_; refine R.hs (e' := [(3, _), (4, _)]) ?_; refine R.rg ?_; refine R.bd Tryz.zeroValue23 places23 ?_; refine R.fa Tryz.runUnderlying30 Tryz.sizeOf23 ?_; refine R.st Tryz.sizeOf23 ?_; refine R.nl ?_; refine R.hs (e' := [(3, _), (4, _)]) ?_; refine Run.exit rfl ?_; refine R.sq ?_; refine R.sq ?_; refine R.rg ?_; refine R.mv ?_
        refine R.nt ?_; refine R.mv ?_; refine R.gF (rfl) ?_; refine R.gF (rfl) ?_; refine R.gF (rfl) ?_; refine R.pT (rfl) ?_; refine R.nl ?_; refine R.hs (e' := [(74, _)]) ?_; refine R.cT (rfl) ?_; refine R.sq ?_; refine R.rg ?_; refine R.as ?_; refine R.nl ?_; refine R.hs (e' := [(2, _)]) ?_; refine R.rt (RV.t .nil) 2 (congrArg (Value.int .i64) ?_)
        simp only [Ht.eta, errA, okO, Ht.ext', Lv.ext', atH] at * <;> grind
      ·refine R.gF (zg9) ?_; refine R.gF (zg9) ?_; refine R.pF (zg9) ?_; refine R.mv ?_; refine R.gF (rfl) ?_; refine R.gF (rfl) ?_; refine R.gF (rfl) ?_; refine R.pF (rfl) ?_; refine R.as ?_; refine R.nl ?_; refine R.hs (e' := [(1, _), (3, _), (4, _)]) ?_; refine R.rg ?_; refine R.fa Tryz.runUnderlying30 Tryz.sizeOf3 ?_; refine R.st Tryz.sizeOf3 ?_; refine R.nl ?_; refine R.hs (e' := [(1, _), (3, _), (4, _)]) ?_; refine Run.endBlock ?_; refine R.sq ?_; refine R.sq ?_; refine R.rg ?_; refine R.mv ?_; refine R.mv ?_; refine R.gF (rfl) ?_; refine R.gF (rfl) ?_; refine R.gF (rfl) ?_; refine R.gF (rfl) ?_; refine R.pF (rfl) ?_; refine R.as ?_; refine R.nl ?_; refine R.hs (e' := [(3, _), (4, _)]) ?_; refine R.rg ?_; refine R.bd Tryz.zeroValue23 places23 ?_; refine R.fa Tryz.runUnderlying30 Tryz.sizeOf23 ?_; refine R.st Tryz.sizeOf23 ?_; refine R.nl ?_; refine R.hs (e' := [(3, _), (4, _)]) ?_
       refine Run.exit rfl ?_; refine R.sq ?_; refine R.sq ?_; refine R.rg ?_; refine R.mv ?_; refine R.nt ?_; refine R.mv ?_; refine R.gF (rfl) ?_; refine R.gF (rfl) ?_; refine R.gF (rfl) ?_; refine R.pT (rfl) ?_; refine R.nl ?_; refine R.hs (e' := [(74, _)]) ?_; refine R.cT (rfl) ?_; refine R.sq ?_; refine R.rg ?_; refine R.as ?_; refine R.nl ?_; refine R.hs (e' := [(2, _)]) ?_; refine R.rt (RV.t .nil) 2 (congrArg (Value.int .i64) ?_)
       simp only [Ht.eta, errA, okO, Ht.ext', Lv.ext', atH] at * <;> grind
     ·refine R.gF (zg8) ?_; refine R.gF (zg8) ?_; refine R.gF (zg8) ?_; refine R.pF (zg8) ?_; refine R.mv ?_; refine R.gF (rfl) ?_; refine R.gF (rfl) ?_; refine R.gF (rfl) ?_; refine R.pF (rfl) ?_; refine R.mv ?_; refine R.gF (rfl) ?_; refine R.gF (rfl) ?_; refine R.gF (rfl) ?_; refine R.pF (rfl) ?_; refine R.as ?_; refine R.nl ?_; refine R.hs (e' := [(1, _), (3, _), (4, _)]) ?_; refine R.rg ?_; refine R.fa Tryz.runUnderlying30 Tryz.sizeOf3 ?_; refine R.st Tryz.sizeOf3 ?_; refine R.nl ?_; refine R.hs (e' := [(1, _), (3, _), (4, _)]) ?_; refine Run.endBlock ?_; refine R.sq ?_; refine R.sq ?_; refine R.rg ?_; refine R.mv ?_; refine R.mv ?_; refine R.gF (rfl) ?_; refine R.gF (rfl) ?_; refine R.gF (rfl) ?_; refine R.gF (rfl) ?_; refine R.pF (rfl) ?_; refine R.as ?_; refine R.nl ?_; refine R.hs (e' := [(3, _), (4, _)]) ?_; refine R.rg ?_; refine R.bd Tryz.zeroValue23 places23 ?_
      refine R.fa Tryz.runUnderlying30 Tryz.sizeOf23 ?_; refine R.st Tryz.sizeOf23 ?_; refine R.nl ?_; refine R.hs (e' := [(3, _), (4, _)]) ?_; refine Run.exit rfl ?_; refine R.sq ?_; refine R.sq ?_; refine R.rg ?_; refine R.mv ?_; refine R.nt ?_; refine R.mv ?_; refine R.gF (rfl) ?_; refine R.gF (rfl) ?_; refine R.gF (rfl) ?_; refine R.pT (rfl) ?_; refine R.nl ?_; refine R.hs (e' := [(74, _)]) ?_; refine R.cT (rfl) ?_; refine R.sq ?_; refine R.rg ?_; refine R.as ?_; refine R.nl ?_; refine R.hs (e' := [(2, _)]) ?_; refine R.rt (RV.t .nil) 2 (congrArg (Value.int .i64) ?_)
      simp only [Ht.eta, errA, okO, Ht.ext', Lv.ext', atH] at * <;> grind
    ·refine Run.skip ?_; refine R.sq ?_; refine R.sq ?_; refine R.rg ?_; refine R.cm ?_; refine R.as ?_; refine R.nl ?_; refine R.hs (e' := [(1, _), (3, _), (4, _), (19, _), (24, _)]) ?_; refine R.cd (fun zc14 => ?_) (fun zc14 => ?_)
     ·refine Run.exit rfl ?_; refine R.sq ?_; refine R.sq ?_; refine R.rg ?_; refine R.mv ?_; refine R.mv ?_; refine R.gd (fun zg15 => ?_) (fun zg15 => ?_)
      ·refine R.fa Tryz.runUnderlying30 Tryz.sizeOf23 ?_; refine R.gY (zg15) ?_; refine R.lA 6 Tryz.isAgg23 Tryz.sizeOf23 ?_; refine R.gY (zg15) ?_; refine R.cg Tryz.call44 (hCheck_spec ⟨_, _, _, _, _, _⟩) ?_; refine R.gY (zg15) ?_; refine R.cm ?_; refine R.pT (zg15) ?_; refine R.as ?_; refine R.nl ?_; refine R.hs (e' := [(3, _), (4, _)]) ?_; refine R.rg ?_; refine R.bd Tryz.zeroValue23 places23 ?_; refine R.fa Tryz.runUnderlying30 Tryz.sizeOf23 ?_; refine R.st Tryz.sizeOf23 ?_; refine R.nl ?_; refine R.hs (e' := [(3, _), (4, _)]) ?_; refine Run.exit rfl ?_; refine R.sq ?_; refine R.sq ?_; refine R.rg ?_; refine R.mv ?_; refine R.nt ?_; refine R.mv ?_; refine R.gd (fun zg16 => ?_) (fun zg16 => ?_)
       ·refine R.lA 12 Tryz.isAgg30 Tryz.sizeOf30 ?_; refine R.gY (zg16) ?_; refine R.bd Tryz.zeroValue30 places30 ?_; refine R.gY (zg16) ?_; refine R.na Tryz.eqGuardType30 (eqAt30 _ _ _ _ _ _ _ _ _ _ _ _ _ _ _ _ _ _ _ _ _ _ _ _) ?_; refine R.pF (zg16) ?_; refine R.nl ?_; refine R.hs (e' := [(74, _)]) ?_; refine R.cd (fun zc17 => ?_) (fun zc17 => ?_)
        ·refine R.sq ?_; refine R.rg ?_; refine R.as ?_; refine R.nl ?_; refine R.hs (e' := [(2, _)]) ?_; refine R.rt (RV.t .nil) 2 (congrArg (Value.int .i64) ?_)
         simp only [Ht.eta, errA, okO, Ht.ext', Lv.ext', atH] at * <;> grind
        ·refine Run.skip ?_; refine R.sq ?_; refine R.rg ?_; refine R.as ?_; refine R.nl ?_; refine R.hs (e' := [(2, _)]) ?_; refine R.rt (RV.t .nil) 2 (congrArg (Value.int .i64) ?_)
         simp only [Ht.eta, errA, okO, Ht.ext', Lv.ext', atH] at * <;> grind
       ·refine R.gF (zg16) ?_; refine R.gF (zg16) ?_; refine R.pT (zg16) ?_; refine R.nl ?_; refine R.hs (e' := [(74, _)]) ?_; refine R.cT (rfl) ?_; refine R.sq ?_; refine R.rg ?_; refine R.as ?_; refine R.nl ?_; refine R.hs (e' := [(2, _)]) ?_; refine R.rt (RV.t .nil) 2 (congrArg (Value.int .i64) ?_)
        simp only [Ht.eta, errA, okO, Ht.ext', Lv.ext', atH] at * <;> grind
      ·refine R.gF (zg15) ?_; refine R.gF (zg15) ?_; refine R.gF (zg15) ?_; refine R.pF (zg15) ?_; refine R.as ?_; refine R.nl ?_; refine R.hs (e' := [(3, _), (4, _)]) ?_; refine R.rg ?_; refine R.bd Tryz.zeroValue23 places23 ?_; refine R.fa Tryz.runUnderlying30 Tryz.sizeOf23 ?_; refine R.st Tryz.sizeOf23 ?_; refine R.nl ?_; refine R.hs (e' := [(3, _), (4, _)]) ?_; refine Run.exit rfl ?_; refine R.sq ?_; refine R.sq ?_; refine R.rg ?_; refine R.mv ?_; refine R.nt ?_; refine R.mv ?_; refine R.gF (rfl) ?_; refine R.gF (rfl) ?_; refine R.gF (rfl) ?_; refine R.pT (rfl) ?_; refine R.nl ?_; refine R.hs (e' := [(74, _)]) ?_; refine R.cT (rfl) ?_; refine R.sq ?_; refine R.rg ?_; refine R.as ?_; refine R.nl ?_; refine R.hs (e' := [(2, _)]) ?_; refine R.rt (RV.t .nil) 2 (congrArg (Value.int .i64) ?_)
       simp only [Ht.eta, errA, okO, Ht.ext', Lv.ext', atH] at * <;> grind
     ·refine Run.skip ?_; refine R.sq ?_; refine R.rg ?_; refine R.cm ?_; refine R.as ?_; refine R.nl ?_; refine R.hs (e' := [(1, _), (3, _), (4, _), (26, _)]) ?_; refine R.cd (fun zc18 => ?_) (fun zc18 => ?_)
      ·refine Run.exit rfl ?_; refine R.sq ?_; refine R.sq ?_; refine R.rg ?_; refine R.fa Tryz.runUnderlying30 Tryz.sizeOf28 ?_; refine R.lA 3 Tryz.isAgg28 Tryz.sizeOf28 ?_; refine R.cg Tryz.call49 (hAt_spec ⟨_, _, _⟩ _ _) ?_; refine R.mv ?_; refine R.ex ?_; refine R.ex ?_; refine R.alA Tryz.zeroValue23 (fun zb19 hzb19 => ?_); refine R.st Tryz.sizeOf23 ?_; refine R.as ?_; refine R.nl ?_; refine R.hs (e' := [(3, _), (4, _), (6, _)]) ?_; refine R.sq ?_; refine R.rg ?_; refine R.mv ?_; refine R.mv ?_; refine R.gd (fun zg20 => ?_) (fun zg20 => ?_)
       ·refine R.mv ?_; refine R.gY (zg20) ?_; refine R.cm ?_; refine R.pT (zg20) ?_; refine R.as ?_; refine R.nl ?_; refine R.hs (e' := [(3, _), (4, _)]) ?_; refine R.rg ?_; refine R.bd Tryz.zeroValue28 places28 ?_; refine R.fa Tryz.runUnderlying30 Tryz.sizeOf28 ?_; refine R.st Tryz.sizeOf28 ?_; refine R.nl ?_; refine R.hs (e' := [(3, _), (4, _)]) ?_; refine Run.exit rfl ?_; refine R.sq ?_; refine R.sq ?_; refine R.rg ?_; refine R.mv ?_; refine R.nt ?_; refine R.mv ?_; refine R.gd (fun zg21 => ?_) (fun zg21 => ?_)
        ·refine R.lA 12 Tryz.isAgg30 Tryz.sizeOf30 ?_; refine R.gY (zg21) ?_; refine R.bd Tryz.zeroValue30 places30 ?_; refine R.gY (zg21) ?_; refine R.na Tryz.eqGuardType30 (eqAt30 _ _ _ _ _ _ _ _ _ _ _ _ _ _ _ _ _ _ _ _ _ _ _ _) ?_; refine R.pF (zg21) ?_; refine R.nl ?_; refine R.hs (e' := [(74, _)]) ?_; refine R.cd (fun zc22 => ?_) (fun zc22 => ?_)
         ·refine R.sq ?_; refine R.rg ?_; refine R.as ?_; refine R.nl ?_; refine R.hs (e' := [(2, _)]) ?_; refine R.rt (RV.t .nil) 3 (congrArg (Value.int .i64) ?_)
          simp only [Ht.eta, errA, okO, Ht.ext', Lv.ext', atH] at * <;> grind
         ·refine Run.skip ?_; refine R.sq ?_; refine R.rg ?_; refine R.as ?_; refine R.nl ?_; refine R.hs (e' := [(2, _)]) ?_; refine R.rt (RV.t .nil) 3 (congrArg (Value.int .i64) ?_)
          simp only [Ht.eta, errA, okO, Ht.ext', Lv.ext', atH] at * <;> grind
        ·refine R.gF (zg21) ?_; refine R.gF (zg21) ?_; refine R.pT (zg21) ?_; refine R.nl ?_; refine R.hs (e' := [(74, _)]) ?_; refine R.cT (rfl) ?_; refine R.sq ?_; refine R.rg ?_; refine R.as ?_; refine R.nl ?_; refine R.hs (e' := [(2, _)]) ?_; refine R.rt (RV.t .nil) 3 (congrArg (Value.int .i64) ?_)
         simp only [Ht.eta, errA, okO, Ht.ext', Lv.ext', atH] at * <;> grind
       ·refine R.gF (zg20) ?_; refine R.pF (zg20) ?_; refine R.as ?_; refine R.nl ?_; refine R.hs (e' := [(3, _), (4, _)]) ?_; refine R.rg ?_; refine R.bd Tryz.zeroValue28 places28 ?_; refine R.fa Tryz.runUnderlying30 Tryz.sizeOf28 ?_; refine R.st Tryz.sizeOf28 ?_; refine R.nl ?_; refine R.hs (e' := [(3, _), (4, _)]) ?_; refine Run.exit rfl ?_; refine R.sq ?_; refine R.sq ?_; refine R.rg ?_; refine R.mv ?_; refine R.nt ?_; refine R.mv ?_; refine R.gF (rfl) ?_; refine R.gF (rfl) ?_; refine R.gF (rfl) ?_; refine R.pT (rfl) ?_; refine R.nl ?_; refine R.hs (e' := [(74, _)]) ?_; refine R.cT (rfl) ?_; refine R.sq ?_; refine R.rg ?_; refine R.as ?_; refine R.nl ?_; refine R.hs (e' := [(2, _)]) ?_; refine R.rt (RV.t .nil) 3 (congrArg (Value.int .i64) ?_)
        simp only [Ht.eta, errA, okO, Ht.ext', Lv.ext', atH] at * <;> grind
      ·refine Run.skip ?_; refine Run.exit rfl ?_; refine R.sq ?_; refine R.rg ?_; refine R.as ?_; refine R.nl ?_; refine R.hs (e' := [(3, _), (4, _)]) ?_; refine Run.exit rfl ?_; refine R.sq ?_; refine R.sq ?_; refine R.rg ?_; refine R.mv ?_; refine R.nt ?_; refine R.mv ?_; refine R.gF (rfl) ?_; refine R.gF (rfl) ?_; refine R.gF (rfl) ?_; refine R.pT (rfl) ?_; refine R.nl ?_; refine R.hs (e' := [(74, _)]) ?_; refine R.cT (rfl) ?_; refine R.sq ?_; refine R.rg ?_; refine R.as ?_; refine R.nl ?_; refine R.hs (e' := [(2, _)]) ?_; refine R.rt (RV.t .nil) 2 (congrArg (Value.int .i64) ?_)
       simp only [Ht.eta, errA, okO, Ht.ext', Lv.ext', atH] at * <;> grind
  ·refine R.gF (zg3) ?_; refine R.gF (zg3) ?_; refine R.pF (zg3) ?_; refine R.as ?_; refine R.nl ?_; refine R.hs (e' := [(1, _), (3, _), (4, _)]) ?_; refine R.sq ?_; refine R.sq ?_; refine R.rg ?_; refine R.fa Tryz.runUnderlying30 Tryz.sizeOf3 ?_; refine R.ld Tryz.isAgg3 ?_; refine R.nl ?_; refine R.hs (e' := [(1, _), (3, _), (4, _), (19, _)]) ?_; refine Run.block ?_; refine R.sq ?_; refine Run.block ?_; refine R.sq ?_; refine Run.block ?_; refine R.sq ?_; refine Run.block ?_; refine R.sq ?_; refine Run.block ?_; refine R.sq ?_; refine Run.block ?_; refine R.sq ?_; refine R.sq ?_; refine R.sq ?_; refine R.rg ?_; refine R.cm ?_; refine R.as ?_; refine R.nl ?_; refine R.hs (e' := [(1, _), (3, _), (4, _), (19, _), (20, _)]) ?_; refine R.cd (fun zc23 => ?_) (fun zc23 => ?_)
   ·refine Run.exit rfl ?_; refine Run.exit rfl ?_; refine R.sq ?_; refine R.sq ?_; refine R.rg ?_; refine R.mv ?_; refine R.nt ?_; refine R.mv ?_; refine R.gF (rfl) ?_; refine R.gF (rfl) ?_; refine R.gF (rfl) ?_; refine R.pT (rfl) ?_; refine R.nl ?_; refine R.hs (e' := [(74, _)]) ?_; refine R.cT (rfl) ?_; refine R.sq ?_; refine R.rg ?_; refine R.as ?_; refine R.nl ?_; refine R.hs (e' := [(2, _)]) ?_; refine R.rt (RV.t .nil) 2 (congrArg (Value.int .i64) ?_)
    simp only [Ht.eta, errA, okO, Ht.ext', Lv.ext', atH] at * <;> grind
   ·refine Run.skip ?_; refine R.sq ?_; refine R.sq ?_; refine R.rg ?_; refine R.cm ?_; refine R.as ?_; refine R.nl ?_; refine R.hs (e' := [(1, _), (3, _), (4, _), (19, _), (22, _)]) ?_; refine R.cd (fun zc24 => ?_) (fun zc24 => ?_)
    ·refine Run.exit rfl ?_; refine R.sq ?_; refine R.rg ?_; refine R.mv ?_; refine R.mv ?_; refine R.gF (rfl) ?_; refine R.gF (rfl) ?_; refine R.gF (rfl) ?_; refine R.gF (rfl) ?_; refine R.pF (rfl) ?_; refine R.mv ?_; refine R.gF (rfl) ?_; refine R.gF (rfl) ?_; refine R.gF (rfl) ?_; refine R.pF (rfl) ?_; refine R.mv ?_; refine R.gF (rfl) ?_; refine R.gF (rfl) ?_; refine R.gF (rfl) ?_; refine R.pF (rfl) ?_; refine R.as ?_; refine R.nl ?_; refine R.hs (e' := [(1, _), (3, _), (4, _)]) ?_; refine R.rg ?_; refine R.fa Tryz.runUnderlying30 Tryz.sizeOf3 ?_; refine R.st Tryz.sizeOf3 ?_; refine R.nl ?_; refine R.hs (e' := [(1, _), (3, _), (4, _)]) ?_; refine Run.endBlock ?_; refine R.sq ?_; refine R.sq ?_; refine R.rg ?_; refine R.mv ?_; refine R.mv ?_; refine R.gF (rfl) ?_; refine R.gF (rfl) ?_; refine R.gF (rfl) ?_; refine R.gF (rfl) ?_; refine R.pF (rfl) ?_; refine R.as ?_; refine R.nl ?_
     refine R.hs (e' := [(3, _), (4, _)]) ?_; refine R.rg ?_; refine R.bd Tryz.zeroValue23 places23 ?_; refine R.fa Tryz.runUnderlying30 Tryz.sizeOf23 ?_; refine R.st Tryz.sizeOf23 ?_; refine R.nl ?_; refine R.hs (e' := [(3, _), (4, _)]) ?_; refine Run.exit rfl ?_; refine R.sq ?_; refine R.sq ?_; refine R.rg ?_; refine R.mv ?_; refine R.nt ?_; refine R.mv ?_; refine R.gF (rfl) ?_; refine R.gF (rfl) ?_; refine R.gF (rfl) ?_; refine R.pT (rfl) ?_; refine R.nl ?_; refine R.hs (e' := [(74, _)]) ?_; refine R.cT (rfl) ?_; refine R.sq ?_; refine R.rg ?_; refine R.as ?_; refine R.nl ?_; refine R.hs (e' := [(2, _)]) ?_; refine R.rt (RV.t .nil) 2 (congrArg (Value.int .i64) ?_)
     simp only [Ht.eta, errA, okO, Ht.ext', Lv.ext', atH] at * <;> grind
    ·refine Run.skip ?_; refine R.sq ?_; refine R.sq ?_; refine R.rg ?_; refine R.cm ?_; refine R.as ?_; refine R.nl ?_; refine R.hs (e' := [(1, _), (3, _), (4, _), (19, _), (24, _)]) ?_; refine R.cd (fun zc25 => ?_) (fun zc25 => ?_)
     ·refine Run.exit rfl ?_; refine R.sq ?_; refine R.sq ?_; refine R.rg ?_; refine R.mv ?_; refine R.mv ?_; refine R.gF (rfl) ?_; refine R.gF (rfl) ?_; refine R.gF (rfl) ?_; refine R.gF (rfl) ?_; refine R.pF (rfl) ?_; refine R.as ?_; refine R.nl ?_; refine R.hs (e' := [(3, _), (4, _)]) ?_; refine R.rg ?_; refine R.bd Tryz.zeroValue23 places23 ?_; refine R.fa Tryz.runUnderlying30 Tryz.sizeOf23 ?_; refine R.st Tryz.sizeOf23 ?_; refine R.nl ?_; refine R.hs (e' := [(3, _), (4, _)]) ?_; refine Run.exit rfl ?_; refine R.sq ?_; refine R.sq ?_; refine R.rg ?_; refine R.mv ?_; refine R.nt ?_; refine R.mv ?_; refine R.gF (rfl) ?_; refine R.gF (rfl) ?_; refine R.gF (rfl) ?_; refine R.pT (rfl) ?_; refine R.nl ?_; refine R.hs (e' := [(74, _)]) ?_; refine R.cT (rfl) ?_; refine R.sq ?_; refine R.rg ?_; refine R.as ?_; refine R.nl ?_; refine R.hs (e' := [(2, _)]) ?_
      refine R.rt (RV.t .nil) 2 (congrArg (Value.int .i64) ?_)
      simp only [Ht.eta, errA, okO, Ht.ext', Lv.ext', atH] at * <;> grind
     ·refine Run.skip ?_; refine R.sq ?_; refine R.rg ?_; refine R.cm ?_; refine R.as ?_; refine R.nl ?_; refine R.hs (e' := [(1, _), (3, _), (4, _), (26, _)]) ?_; refine R.cd (fun zc26 => ?_) (fun zc26 => ?_)
      ·refine Run.exit rfl ?_; refine R.sq ?_; refine R.sq ?_; refine R.rg ?_; refine R.fa Tryz.runUnderlying30 Tryz.sizeOf28 ?_; refine R.lA 3 Tryz.isAgg28 Tryz.sizeOf28 ?_; refine R.cg Tryz.call49 (hAt_spec ⟨_, _, _⟩ _ _) ?_; refine R.mv ?_; refine R.ex ?_; refine R.ex ?_; refine R.alA Tryz.zeroValue23 (fun zb27 hzb27 => ?_); refine R.st Tryz.sizeOf23 ?_; refine R.as ?_; refine R.nl ?_; refine R.hs (e' := [(3, _), (4, _), (6, _)]) ?_; refine R.sq ?_; refine R.rg ?_; refine R.mv ?_; refine R.mv ?_; refine R.gF (rfl) ?_; refine R.gF (rfl) ?_; refine R.pF (rfl) ?_; refine R.as ?_; refine R.nl ?_; refine R.hs (e' := [(3, _), (4, _)]) ?_; refine R.rg ?_; refine R.bd Tryz.zeroValue28 places28 ?_; refine R.fa Tryz.runUnderlying30 Tryz.sizeOf28 ?_; refine R.st Tryz.sizeOf28 ?_; refine R.nl ?_; refine R.hs (e' := [(3, _), (4, _)]) ?_; refine Run.exit rfl ?_; refine R.sq ?_; refine R.sq ?_
       refine R.rg ?_; refine R.mv ?_; refine R.nt ?_; refine R.mv ?_; refine R.gF (rfl) ?_; refine R.gF (rfl) ?_; refine R.gF (rfl) ?_; refine R.pT (rfl) ?_; refine R.nl ?_; refine R.hs (e' := [(74, _)]) ?_; refine R.cT (rfl) ?_; refine R.sq ?_; refine R.rg ?_; refine R.as ?_; refine R.nl ?_; refine R.hs (e' := [(2, _)]) ?_; refine R.rt (RV.t .nil) 3 (congrArg (Value.int .i64) ?_)
       simp only [Ht.eta, errA, okO, Ht.ext', Lv.ext', atH] at * <;> grind
      ·refine Run.skip ?_; refine Run.exit rfl ?_; refine R.sq ?_; refine R.rg ?_; refine R.as ?_; refine R.nl ?_; refine R.hs (e' := [(3, _), (4, _)]) ?_; refine Run.exit rfl ?_; refine R.sq ?_; refine R.sq ?_; refine R.rg ?_; refine R.mv ?_; refine R.nt ?_; refine R.mv ?_; refine R.gF (rfl) ?_; refine R.gF (rfl) ?_; refine R.gF (rfl) ?_; refine R.pT (rfl) ?_; refine R.nl ?_; refine R.hs (e' := [(74, _)]) ?_; refine R.cT (rfl) ?_; refine R.sq ?_; refine R.rg ?_; refine R.as ?_; refine R.nl ?_; refine R.hs (e' := [(2, _)]) ?_; refine R.rt (RV.t .nil) 2 (congrArg (Value.int .i64) ?_)
       simp only [Ht.eta, errA, okO, Ht.ext', Lv.ext', atH] at * <;> grind
end Go.Proofs.YtgdpjpmjcpieiaaGreat

/- Maps at whole numbers: an entry more, an entry read. No condition. -/
namespace Go.Proofs.YtgdpjpmjcpieiaaGreat
open Go
set_option linter.unusedVariables false
set_option linter.unusedSimpArgs false
section
variable {P : Program} {n : Nat} {Q : Exit → Act → World → Prop} {g : Gl} {k : List It} {e : Env} {D : Dict} {M : MList}
  {all : Array Oper} {rest : List Oper} {dst : Option Nat} {ty : TypeId} {pos : String} {af : Array Edge}
theorem check_int {kt : TypeId} {kd : IntKind} (hk : P.underlying kt = some (.int kd)) (b : Bool) (x : Int) (w : World) : (Instr.checkKey b 10000 kt (.int kd x)).run P w = .ok () w := by
  have : (10000 : Nat) = 9999 + 1 := rfl
  rw [this]
  unfold Instr.checkKey
  simp [Sem.run_bind, run_underlying hk, Result.andThen_ok, Sem.run_pure]
/-- an entry more, in a map literal -/
theorem R.mi {t kt et : TypeId} {m kx vx : Operand} {kd : IntKind} {kk : Int} {vv : Value} {b clock : Nat} {es : List MapEntry} {M' : MList} (hu : P.underlying t = some (.map kt et)) (hk : P.underlying kt = some (.int kd))
    (h : Run P n Q g (.ops all rest :: k) (e.put dst undef) D M') (hm : e.ev m = some (.map (some b)) := by rfl) (hkx : e.ev kx = some (.int kd kk) := by rfl) (hvx : e.ev vx = some vv := by rfl)
    (hs : MSet M b (.map es.toArray clock) (.map (es ++ [(⟨.int kd kk, vv, clock⟩ : MapEntry)]).toArray (clock + 1)) M' := by first | exact .here .. | exact .there _ (.here ..) | exact .there _ (.there _ (.here ..)) | (repeat (first | exact MSet.here .. | apply MSet.there)))
    (hf : Instr.findNow (.int kd) (.int kd kk) es 0 = some none := by rfl) (hd : dstOk n dst = true := by rfl) : Run P n Q g (.ops all (⟨dst, .insert t m kx vx, ty, pos, af, none⟩ :: rest) :: k) e D M := by
  refine Run.skp (fun D' M'' => D' = D ∧ M'' = M') hd (fun a he w hw => ?_) (fun _ _ ⟨h2, h3⟩ => by subst h2; subst h3; exact h)
  have hb := hw.mt _ hs.mem
  have hbl : b < w.heap.size := (Array.getElem?_eq_some_iff.1 hb).1
  refine ⟨{ w with heap := w.heap.setIfInBounds b (.map (es ++ [(⟨.int kd kk, vv, clock⟩ : MapEntry)]).toArray (clock + 1)) }, D, M', ?_, hw.mset hs rfl rfl rfl (Nat.le_refl _) (by simp [hbl]) (fun c hc => by simp [Array.getElem?_setIfInBounds_ne (fun e => hc e.symm)]), rfl, rfl⟩
  have hset := MapKept.run_setObj_map (P := P) (w := w) (r := b) (.map (es ++ [(⟨.int kd kk, vv, clock⟩ : MapEntry)]).toArray (clock + 1)) hb
  simp only [execOp, he.ev hm, he.ev hkx, he.ev hvx, Sem.run_bind, Instr.mapUpdate, run_underlying hu, Result.andThen_ok, MapKept.run_getObj_map hb, check_int hk, Instr.findKey, run_underlying hk, hf, Sem.run_pure]
  simp only [List.push_toArray]
  rw [hset]
  rfl
/-- an entry read -/
theorem R.mlk {t kt et : TypeId} {m kx : Operand} {kd : IntKind} {kk : Int} {vv : Value} {b clock j : Nat} {es : List MapEntry} (hu : P.underlying t = some (.map kt et)) (hk : P.underlying kt = some (.int kd)) (hmem : (b, Obj.map es.toArray clock) ∈ M) (hf : Instr.findNow (.int kd) (.int kd kk) es 0 = some (some (j, vv)))
    (h : Run P n Q g (.ops all rest :: k) (e.put dst vv) D M) (hm : e.ev m = some (.map (some b)) := by rfl) (hkx : e.ev kx = some (.int kd kk) := by rfl) (hd : dstOk n dst = true := by rfl) :
    Run P n Q g (.ops all (⟨dst, .lookup t m kx false, ty, pos, af, none⟩ :: rest) :: k) e D M :=
  Run.val _ hd (fun a he w hw => by
    have hb := hw.mt _ hmem
    simp only [execOp, he.ev hm, he.ev hkx, Sem.run_bind, Instr.lookup, run_underlying hu, Result.andThen_ok, MapKept.run_getObj_map hb, check_int hk, Instr.findKey, run_underlying hk, hf, Sem.run_pure]
    simp) h
end
end Go.Proofs.YtgdpjpmjcpieiaaGreat

/- The calls of a route: what is looked at first. No condition. -/
namespace Go.Proofs.YtgdpjpmjcpieiaaGreat
open Go
set_option linter.unusedVariables false
set_option linter.unusedSimpArgs false
set_option maxRecDepth 100000
set_option maxHeartbeats 0
abbrev pt (b : Nat) : Value := .pointer (some ⟨b, 0, none⟩)
abbrev ib (b : Nat) (x : Int) : Nat × Obj := (b, .cells [Value.int .i64 x].toArray 3 (0, 0))
abbrev rb (b : Nat) (v : Value) (r : Rt) : Nat × Obj := (b, .cells (Rt.cells v r).toArray 26 (0, 0))
abbrev ob (b : Nat) (o : Ob) : Nat × Obj := (b, .cells (Ob.cells o).toArray 30 (0, 0))
/-- a check that is handed on: it looks at X, and says chk -/
def CS (f : FuncId) (cap : List Value) (X : MList) (D : Dict) (chk : Int) : Prop := ∀ (g : Gl) (D1 : Dict) (M : MList), Le D D1 → (∀ p ∈ X, p ∈ M) → Gives Tryz.prog g f cap D1 M (.int .i64 chk)
def upC (r : Rt) (id : Int) : Int := if (!nodeB id || decide (id = r.me)) = true then 1 else if (getV r.vs id).isSome = true then 9 else 0
theorem fine_cs {D : Dict} {X : MList} : CS 52 [] X D 0 := by
  intro g D1 M hle hX
  refine Gives.enter Tryz.func52 rfl Tryz.ntmps52 ?_; refine R.sq ?_; refine R.rg ?_; refine R.as ?_; refine R.nl ?_; refine R.hs (e' := []) ?_; refine R.sq ?_; refine R.rg ?_; refine R.as ?_; refine R.nl ?_; refine R.hs (e' := [(0, _)]) ?_; exact R.rt (RV.t .nil) 0 rfl
theorem up_cs {D : Dict} {v : Value} {r : Rt} {b1 b2 : Nat} {id : Int} (hV0 : Vws D v r.vs) : CS 55 [pt b1, pt b2] [rb b1 v r, ib b2 id] D (upC r id) := by
  intro g D1 M hle hX
  have hV : Vws D1 v r.vs := hV0.mono hle
  have h1 := hX _ (.head _)
  have h2 := hX _ (.tail _ (.head _))
  refine Gives.enter Tryz.func55 rfl Tryz.ntmps55 ?_; refine R.sq ?_; refine R.rg ?_; refine R.as ?_; refine R.nl ?_; refine R.hs (e' := [(0, _), (1, _)]) ?_; refine R.sq ?_; refine R.rg ?_; refine R.fa Tryz.runUnderlying26 Tryz.sizeOf24 ?_; refine R.ld Tryz.isAgg24 ?_ (hc := Cs.mkM (n := 1) (h1) rfl); refine R.ld Tryz.isAgg3 ?_ (hc := Cs.mkM (n := 1) (h2) rfl); refine R.cg Tryz.call21 (get_spec _ hV) ?_; refine R.mv ?_; refine R.ex ?_; refine R.ex ?_; refine R.alA Tryz.zeroValue23 (fun zb1 hzb1 => ?_); refine R.st Tryz.sizeOf23 ?_; refine R.as ?_; refine R.nl ?_; refine R.hs (e' := [(0, _), (1, _), (4, _)]) ?_; refine R.sq ?_; refine Run.block ?_; refine R.sq ?_; refine R.rg ?_; refine R.ld Tryz.isAgg3 ?_ (hc := Cs.mkM (n := 1) (List.mem_cons_of_mem _ h2) rfl); refine R.cg Tryz.call39 (node_spec _) ?_; refine R.nt ?_; refine R.mv ?_; refine R.gd (fun zg2 => ?_) (fun zg2 => ?_)
  ·refine R.ld Tryz.isAgg3 ?_ (hc := Cs.mkM (n := 1) (List.mem_cons_of_mem _ h2) rfl); refine R.gY (zg2) ?_; refine R.fa Tryz.runUnderlying26 Tryz.sizeOf3 ?_; refine R.gY (zg2) ?_; refine R.ld Tryz.isAgg3 ?_ (hc := Cs.mkM (n := 1) (List.mem_cons_of_mem _ h1) rfl); refine R.gY (zg2) ?_; refine R.cm ?_; refine R.pF (zg2) ?_; refine R.as ?_; refine R.nl ?_; refine R.hs (e' := [(4, _), (12, _)]) ?_; refine R.cd (fun zc3 => ?_) (fun zc3 => ?_)
   ·refine R.sq ?_; refine R.rg ?_; refine R.as ?_; refine R.nl ?_; refine R.hs (e' := [(2, _)]) ?_; refine R.rt (RV.t .nil) 1 (congrArg (Value.int .i64) ?_)
    clear hV hV0 h1 h2 hX
    simp only [upC] at * <;> grind
   ·refine R.sq ?_; refine R.rg ?_; refine R.mv ?_; refine R.as ?_; refine R.nl ?_; refine R.hs (e' := [(22, _)]) ?_; refine R.cd (fun zc4 => ?_) (fun zc4 => ?_)
    ·refine R.sq ?_; refine R.rg ?_; refine R.as ?_; refine R.nl ?_; refine R.hs (e' := [(2, _)]) ?_; refine R.rt (RV.t .nil) 1 (congrArg (Value.int .i64) ?_)
     clear hV hV0 h1 h2 hX
     simp only [upC] at * <;> grind
    ·refine Run.skip ?_; refine Run.endBlock ?_; refine R.sq ?_; refine R.rg ?_; refine R.as ?_; refine R.nl ?_; refine R.hs (e' := [(2, _)]) ?_; refine R.rt (RV.t .nil) 1 (congrArg (Value.int .i64) ?_)
     clear hV hV0 h1 h2 hX
     simp only [upC] at * <;> grind
  ·refine R.gF (zg2) ?_; refine R.gF (zg2) ?_; refine R.gF (zg2) ?_; refine R.pT (zg2) ?_; refine R.as ?_; refine R.nl ?_; refine R.hs (e' := [(4, _), (12, _)]) ?_; refine R.cT (rfl) ?_; refine R.sq ?_; refine R.rg ?_; refine R.as ?_; refine R.nl ?_; refine R.hs (e' := [(2, _)]) ?_; refine R.rt (RV.t .nil) 1 (congrArg (Value.int .i64) ?_)
   clear hV hV0 h1 h2 hX
   simp only [upC] at * <;> grind
theorem down_cs {D : Dict} {v : Value} {r : Rt} {b1 b2 : Nat} {id : Int} (hn : r.vs.length ≤ 1000) (hV0 : Vws D v r.vs) : CS 60 [pt b1, pt b2] [rb b1 v r, ib b2 id] D (dropE r.vs id) := by
  intro g D1 M hle hX
  have hV : Vws D1 v r.vs := hV0.mono hle
  have h1 := hX _ (.head _)
  have h2 := hX _ (.tail _ (.head _))
  refine Gives.enter Tryz.func60 rfl Tryz.ntmps60 ?_; refine R.sq ?_; refine R.rg ?_; refine R.as ?_; refine R.nl ?_; refine R.hs (e' := [(0, _), (1, _)]) ?_; refine R.sq ?_; refine R.rg ?_; refine R.fa Tryz.runUnderlying26 Tryz.sizeOf24 ?_; refine R.ld Tryz.isAgg24 ?_ (hc := Cs.mkM (n := 1) (h1) rfl); refine R.ld Tryz.isAgg3 ?_ (hc := Cs.mkM (n := 1) (h2) rfl); refine R.gt Tryz.call61 (drop_spec id hn hV) (fun zr1_3 zD1 hzD1 hzr1_3 => ?_)
  obtain ⟨w9, hw8, hw9⟩ := hzr1_3
  subst hw8
  refine R.mv ?_; refine R.ex ?_; refine R.ex ?_; refine R.as ?_; refine R.as ?_; refine R.nl ?_; refine R.hs (e' := [(4, _)]) ?_; refine R.sq ?_; refine R.rg ?_; refine R.mv ?_; refine R.as ?_; refine R.nl ?_; refine R.hs (e' := [(2, _)]) ?_; exact Run.st (fun w hs => hs.le (by assumption)) (R.rt (RV.t .nil) 0 rfl)
def refC (r : Rt) (k : Int) : Int := if (!decide (r.me = r.dest) || decide (k < 0) || decide (k > 65535)) = true then 1 else 0
theorem refresh_cs {D : Dict} {v : Value} {r : Rt} {b1 b2 : Nat} {k : Int} : CS 71 [pt b1, pt b2] [rb b1 v r, ib b2 k] D (refC r k) := by
  intro g D1 M hle hX
  have h1 := hX _ (.head _)
  have h2 := hX _ (.tail _ (.head _))
  refine Gives.enter Tryz.func71 rfl Tryz.ntmps71 ?_; refine R.sq ?_; refine R.rg ?_; refine R.as ?_; refine R.nl ?_; refine R.hs (e' := [(0, _), (1, _)]) ?_; refine R.sq ?_; refine R.sq ?_; refine R.rg ?_; refine R.fa Tryz.runUnderlying26 Tryz.sizeOf3 ?_; refine R.ld Tryz.isAgg3 ?_ (hc := Cs.mkM (n := 1) (h1) rfl); refine R.fa Tryz.runUnderlying26 Tryz.sizeOf3 ?_; refine R.ld Tryz.isAgg3 ?_ (hc := Cs.mkM (n := 1) (h1) rfl); refine R.cm ?_; refine R.mv ?_; refine R.gd (fun zg1 => ?_) (fun zg1 => ?_)
  ·refine R.ld Tryz.isAgg3 ?_ (hc := Cs.mkM (n := 1) (h2) rfl); refine R.gY (zg1) ?_; refine R.cm ?_; refine R.pF (zg1) ?_; refine R.mv ?_; refine R.gd (fun zg2 => ?_) (fun zg2 => ?_)
   ·refine R.ld Tryz.isAgg3 ?_ (hc := Cs.mkM (n := 1) (h2) rfl); refine R.gY (zg2) ?_; refine R.cm ?_; refine R.pF (zg2) ?_; refine R.nl ?_; refine R.hs (e' := [(15, _)]) ?_; refine R.cd (fun zc3 => ?_) (fun zc3 => ?_)
    ·refine R.sq ?_; refine R.rg ?_; refine R.as ?_; refine R.nl ?_; refine R.hs (e' := [(2, _)]) ?_; refine R.rt (RV.t .nil) 0 (congrArg (Value.int .i64) ?_)
     clear h1 h2 hX
     simp only [refC] at * <;> grind
    ·refine Run.skip ?_; refine R.sq ?_; refine R.rg ?_; refine R.as ?_; refine R.nl ?_; refine R.hs (e' := [(2, _)]) ?_; refine R.rt (RV.t .nil) 0 (congrArg (Value.int .i64) ?_)
     clear h1 h2 hX
     simp only [refC] at * <;> grind
   ·refine R.gF (zg2) ?_; refine R.pT (zg2) ?_; refine R.nl ?_; refine R.hs (e' := [(15, _)]) ?_; refine R.cT (rfl) ?_; refine R.sq ?_; refine R.rg ?_; refine R.as ?_; refine R.nl ?_; refine R.hs (e' := [(2, _)]) ?_; refine R.rt (RV.t .nil) 0 (congrArg (Value.int .i64) ?_)
    clear h1 h2 hX
    simp only [refC] at * <;> grind
  ·refine R.gF (zg1) ?_; refine R.pT (zg1) ?_; refine R.mv ?_; refine R.gF (rfl) ?_; refine R.gF (rfl) ?_; refine R.pT (rfl) ?_; refine R.nl ?_; refine R.hs (e' := [(15, _)]) ?_; refine R.cT (rfl) ?_; refine R.sq ?_; refine R.rg ?_; refine R.as ?_; refine R.nl ?_; refine R.hs (e' := [(2, _)]) ?_; refine R.rt (RV.t .nil) 0 (congrArg (Value.int .i64) ?_)
   clear h1 h2 hX
   simp only [refC] at * <;> grind
def hearC (r : Rt) (src : Int) (o : Ob) : Int :=
  if (getV r.vs src).isSome = false then 7 else if (!okO o || !decide (o.dest = r.dest) || ((decide (o.kind = 2) || decide (o.kind = 4)) && !decide (o.h.id = src))) = true then 1 else 0
theorem hear_cs {D : Dict} {v : Value} {r : Rt} {b1 b2 b3 : Nat} {src : Int} {o : Ob} (hV0 : Vws D v r.vs) : CS 64 [pt b1, pt b2, pt b3] [rb b1 v r, ib b2 src, ob b3 o] D (hearC r src o) := by
  intro g D1 M hle hX
  have hV : Vws D1 v r.vs := hV0.mono hle
  have h1 := hX _ (.head _)
  have h2 := hX _ (.tail _ (.head _))
  have h3 := hX _ (.tail _ (.tail _ (.head _)))
  refine Gives.enter Tryz.func64 rfl Tryz.ntmps64 ?_; refine R.sq ?_; refine R.rg ?_; refine R.as ?_; refine R.nl ?_; refine R.hs (e' := [(0, _), (1, _), (2, _)]) ?_; refine R.sq ?_; refine R.rg ?_; refine R.fa Tryz.runUnderlying26 Tryz.sizeOf24 ?_; refine R.ld Tryz.isAgg24 ?_ (hc := Cs.mkM (n := 1) (h1) rfl); refine R.ld Tryz.isAgg3 ?_ (hc := Cs.mkM (n := 1) (h2) rfl); refine R.cg Tryz.call21 (get_spec _ hV) ?_; refine R.mv ?_; refine R.ex ?_; refine R.ex ?_; refine R.alA Tryz.zeroValue23 (fun zb1 hzb1 => ?_); refine R.st Tryz.sizeOf23 ?_; refine R.as ?_; refine R.nl ?_; refine R.hs (e' := [(0, _), (1, _), (2, _), (5, _)]) ?_; refine R.sq ?_; refine R.rg ?_; refine R.fa Tryz.runUnderlying30 Tryz.sizeOf3 ?_; refine R.ld Tryz.isAgg3 ?_ (hc := Cs.mkM (n := 1) (List.mem_cons_of_mem _ h3) rfl); refine R.cm ?_; refine R.mv ?_; refine R.gd (fun zg2 => ?_) (fun zg2 => ?_)
  ·refine R.fa Tryz.runUnderlying30 Tryz.sizeOf3 ?_; refine R.gY (zg2) ?_; refine R.ld Tryz.isAgg3 ?_ (hc := Cs.mkM (n := 1) (List.mem_cons_of_mem _ h3) rfl); refine R.gY (zg2) ?_; refine R.cm ?_; refine R.pF (zg2) ?_; refine R.as ?_; refine R.nl ?_; refine R.hs (e' := [(0, _), (1, _), (2, _), (5, _), (6, _)]) ?_; refine R.sq ?_; refine Run.block ?_; refine R.sq ?_; refine R.rg ?_; refine R.mv ?_; refine R.nt ?_; refine R.as ?_; refine R.nl ?_; refine R.hs (e' := [(0, _), (1, _), (2, _), (6, _), (22, _)]) ?_; refine R.cd (fun zc3 => ?_) (fun zc3 => ?_)
   ·refine R.sq ?_; refine R.rg ?_; refine R.as ?_; refine R.nl ?_; refine R.hs (e' := [(3, _)]) ?_; refine R.rt (RV.t .nil) 1 (congrArg (Value.int .i64) ?_)
    clear hV hV0 h1 h2 h3 hX
    simp only [hearC, errA] at * <;> grind
   ·refine R.sq ?_; refine R.rg ?_; refine R.lA 12 Tryz.isAgg30 Tryz.sizeOf30 ?_ (hc := CsN.mkM (List.mem_cons_of_mem _ h3) rfl); refine R.cg Tryz.call20 (oCheck_spec o) ?_; refine R.cm ?_; refine R.mv ?_; refine R.gd (fun zg4 => ?_) (fun zg4 => ?_)
    ·refine R.fa Tryz.runUnderlying30 Tryz.sizeOf3 ?_; refine R.gY (zg4) ?_; refine R.ld Tryz.isAgg3 ?_ (hc := Cs.mkM (n := 1) (List.mem_cons_of_mem _ h3) rfl); refine R.gY (zg4) ?_; refine R.fa Tryz.runUnderlying26 Tryz.sizeOf3 ?_; refine R.gY (zg4) ?_; refine R.ld Tryz.isAgg3 ?_ (hc := Cs.mkM (n := 1) (List.mem_cons_of_mem _ h1) rfl); refine R.gY (zg4) ?_; refine R.cm ?_; refine R.pF (zg4) ?_; refine R.mv ?_; refine R.gd (fun zg5 => ?_) (fun zg5 => ?_)
     ·refine R.mv ?_; refine R.gY (zg5) ?_; refine R.mv ?_; refine R.gd (fun zg6 => ?_) (fun zg6 => ?_)
      ·refine R.fa Tryz.runUnderlying30 Tryz.sizeOf23 ?_; refine R.gY (zg6) ?_; refine R.fa Tryz.runUnderlying23 Tryz.sizeOf3 ?_; refine R.gY (zg6) ?_; refine R.ld Tryz.isAgg3 ?_ (hc := Cs.mkM (n := 1) (List.mem_cons_of_mem _ h3) rfl); refine R.gY (zg6) ?_; refine R.ld Tryz.isAgg3 ?_ (hc := Cs.mkM (n := 1) (List.mem_cons_of_mem _ h2) rfl); refine R.gY (zg6) ?_; refine R.cm ?_; refine R.gY (zg5) ?_; refine R.pT (zg6) ?_; refine R.pF (zg5) ?_; refine R.as ?_; refine R.nl ?_; refine R.hs (e' := [(25, _)]) ?_; refine R.cd (fun zc7 => ?_) (fun zc7 => ?_)
       ·refine R.sq ?_; refine R.rg ?_; refine R.as ?_; refine R.nl ?_; refine R.hs (e' := [(3, _)]) ?_; refine R.rt (RV.t .nil) 1 (congrArg (Value.int .i64) ?_)
        clear hV hV0 h1 h2 h3 hX
        simp only [hearC, errA] at * <;> grind
       ·refine Run.skip ?_; refine Run.endBlock ?_; refine R.sq ?_; refine R.rg ?_; refine R.as ?_; refine R.nl ?_; refine R.hs (e' := [(3, _)]) ?_; refine R.rt (RV.t .nil) 1 (congrArg (Value.int .i64) ?_)
        clear hV hV0 h1 h2 h3 hX
        simp only [hearC, errA] at * <;> grind
      ·refine R.gF (zg6) ?_; refine R.gF (zg6) ?_; refine R.gF (zg6) ?_; refine R.gF (zg6) ?_; refine R.gY (zg5) ?_; refine R.pF (zg6) ?_; refine R.pF (zg5) ?_; refine R.as ?_; refine R.nl ?_; refine R.hs (e' := [(25, _)]) ?_; refine R.cF (rfl) ?_; refine Run.skip ?_; refine Run.endBlock ?_; refine R.sq ?_; refine R.rg ?_; refine R.as ?_; refine R.nl ?_; refine R.hs (e' := [(3, _)]) ?_; refine R.rt (RV.t .nil) 1 (congrArg (Value.int .i64) ?_)
       clear hV hV0 h1 h2 h3 hX
       simp only [hearC, errA] at * <;> grind
     ·refine R.gF (zg5) ?_; refine R.gU ?_; refine R.gU ?_; refine R.gU ?_; refine R.gU ?_; refine R.gU ?_; refine R.gF (zg5) ?_; refine R.pT (zg5) ?_; refine R.as ?_; refine R.nl ?_; refine R.hs (e' := [(25, _)]) ?_; refine R.cT (rfl) ?_; refine R.sq ?_; refine R.rg ?_; refine R.as ?_; refine R.nl ?_; refine R.hs (e' := [(3, _)]) ?_; refine R.rt (RV.t .nil) 1 (congrArg (Value.int .i64) ?_)
      clear hV hV0 h1 h2 h3 hX
      simp only [hearC, errA] at * <;> grind
    ·refine R.gF (zg4) ?_; refine R.gF (zg4) ?_; refine R.gF (zg4) ?_; refine R.gF (zg4) ?_; refine R.pT (zg4) ?_; refine R.mv ?_; refine R.gF (rfl) ?_; refine R.gF (rfl) ?_; refine R.gU ?_; refine R.gU ?_; refine R.gU ?_; refine R.gU ?_; refine R.gU ?_; refine R.gF (rfl) ?_; refine R.pT (rfl) ?_; refine R.as ?_; refine R.nl ?_; refine R.hs (e' := [(25, _)]) ?_; refine R.cT (rfl) ?_; refine R.sq ?_; refine R.rg ?_; refine R.as ?_; refine R.nl ?_; refine R.hs (e' := [(3, _)]) ?_; refine R.rt (RV.t .nil) 1 (congrArg (Value.int .i64) ?_)
     clear hV hV0 h1 h2 h3 hX
     simp only [hearC, errA] at * <;> grind
  ·refine R.gF (zg2) ?_; refine R.gF (zg2) ?_; refine R.pT (zg2) ?_; refine R.as ?_; refine R.nl ?_; refine R.hs (e' := [(0, _), (1, _), (2, _), (5, _), (6, _)]) ?_; refine R.sq ?_; refine Run.block ?_; refine R.sq ?_; refine R.rg ?_; refine R.mv ?_; refine R.nt ?_; refine R.as ?_; refine R.nl ?_; refine R.hs (e' := [(0, _), (1, _), (2, _), (6, _), (22, _)]) ?_; refine R.cd (fun zc8 => ?_) (fun zc8 => ?_)
   ·refine R.sq ?_; refine R.rg ?_; refine R.as ?_; refine R.nl ?_; refine R.hs (e' := [(3, _)]) ?_; refine R.rt (RV.t .nil) 1 (congrArg (Value.int .i64) ?_)
    clear hV hV0 h1 h2 h3 hX
    simp only [hearC, errA] at * <;> grind
   ·refine R.sq ?_; refine R.rg ?_; refine R.lA 12 Tryz.isAgg30 Tryz.sizeOf30 ?_ (hc := CsN.mkM (List.mem_cons_of_mem _ h3) rfl); refine R.cg Tryz.call20 (oCheck_spec o) ?_; refine R.cm ?_; refine R.mv ?_; refine R.gd (fun zg9 => ?_) (fun zg9 => ?_)
    ·refine R.fa Tryz.runUnderlying30 Tryz.sizeOf3 ?_; refine R.gY (zg9) ?_; refine R.ld Tryz.isAgg3 ?_ (hc := Cs.mkM (n := 1) (List.mem_cons_of_mem _ h3) rfl); refine R.gY (zg9) ?_; refine R.fa Tryz.runUnderlying26 Tryz.sizeOf3 ?_; refine R.gY (zg9) ?_; refine R.ld Tryz.isAgg3 ?_ (hc := Cs.mkM (n := 1) (List.mem_cons_of_mem _ h1) rfl); refine R.gY (zg9) ?_; refine R.cm ?_; refine R.pF (zg9) ?_; refine R.mv ?_; refine R.gd (fun zg10 => ?_) (fun zg10 => ?_)
     ·refine R.mv ?_; refine R.gY (zg10) ?_; refine R.mv ?_; refine R.gY (rfl) ?_; refine R.fa Tryz.runUnderlying30 Tryz.sizeOf23 ?_; refine R.gY (rfl) ?_; refine R.fa Tryz.runUnderlying23 Tryz.sizeOf3 ?_; refine R.gY (rfl) ?_; refine R.ld Tryz.isAgg3 ?_ (hc := Cs.mkM (n := 1) (List.mem_cons_of_mem _ h3) rfl); refine R.gY (rfl) ?_; refine R.ld Tryz.isAgg3 ?_ (hc := Cs.mkM (n := 1) (List.mem_cons_of_mem _ h2) rfl); refine R.gY (rfl) ?_; refine R.cm ?_; refine R.gY (zg10) ?_; refine R.pT (rfl) ?_; refine R.pF (zg10) ?_; refine R.as ?_; refine R.nl ?_; refine R.hs (e' := [(25, _)]) ?_; refine R.cd (fun zc11 => ?_) (fun zc11 => ?_)
      ·refine R.sq ?_; refine R.rg ?_; refine R.as ?_; refine R.nl ?_; refine R.hs (e' := [(3, _)]) ?_; refine R.rt (RV.t .nil) 1 (congrArg (Value.int .i64) ?_)
       clear hV hV0 h1 h2 h3 hX
       simp only [hearC, errA] at * <;> grind
      ·refine Run.skip ?_; refine Run.endBlock ?_; refine R.sq ?_; refine R.rg ?_; refine R.as ?_; refine R.nl ?_; refine R.hs (e' := [(3, _)]) ?_; refine R.rt (RV.t .nil) 1 (congrArg (Value.int .i64) ?_)
       clear hV hV0 h1 h2 h3 hX
       simp only [hearC, errA] at * <;> grind
     ·refine R.gF (zg10) ?_; refine R.gU ?_; refine R.gU ?_; refine R.gU ?_; refine R.gU ?_; refine R.gU ?_; refine R.gF (zg10) ?_; refine R.pT (zg10) ?_; refine R.as ?_; refine R.nl ?_; refine R.hs (e' := [(25, _)]) ?_; refine R.cT (rfl) ?_; refine R.sq ?_; refine R.rg ?_; refine R.as ?_; refine R.nl ?_; refine R.hs (e' := [(3, _)]) ?_; refine R.rt (RV.t .nil) 1 (congrArg (Value.int .i64) ?_)
      clear hV hV0 h1 h2 h3 hX
      simp only [hearC, errA] at * <;> grind
    ·refine R.gF (zg9) ?_; refine R.gF (zg9) ?_; refine R.gF (zg9) ?_; refine R.gF (zg9) ?_; refine R.pT (zg9) ?_; refine R.mv ?_; refine R.gF (rfl) ?_; refine R.gF (rfl) ?_; refine R.gU ?_; refine R.gU ?_; refine R.gU ?_; refine R.gU ?_; refine R.gU ?_; refine R.gF (rfl) ?_; refine R.pT (rfl) ?_; refine R.as ?_; refine R.nl ?_; refine R.hs (e' := [(25, _)]) ?_; refine R.cT (rfl) ?_; refine R.sq ?_; refine R.rg ?_; refine R.as ?_; refine R.nl ?_; refine R.hs (e' := [(3, _)]) ?_; refine R.rt (RV.t .nil) 1 (congrArg (Value.int .i64) ?_)
     clear hV hV0 h1 h2 h3 hX
     simp only [hearC, errA] at * <;> grind
/-- what is done then, handed on: it looks at X -/
def DS (f : FuncId) (cap : List Value) (X : MList) (D : Dict) (t t' : Tn) : Prop := ∀ (g : Gl) (D1 : Dict) (b : Nat) (v o : Value) (q Z : MList), Le D D1 → (∀ p ∈ X, p ∈ Z) → Vws D1 v t.r.vs → UO o t.out q →
  Spec Tryz.prog g f (pt b :: cap) D1 (tb b v o t :: (q ++ Z)) (fun u D' M' => u = .tuple #[] ∧ Le D1 D' ∧ ∃ v' o' q', Vws D' v' t'.r.vs ∧ UO o' t'.out q' ∧ M' = tb b v' o' t' :: (q' ++ Z))
theorem free_ds {D : Dict} {X : MList} (t : Tn) : DS 70 [] X D t { t with r := { t.r with want := false } } := by
  intro g D1 b sv so q Z hle hX hV hO
  refine Spec.enter Tryz.func70 rfl Tryz.ntmps70 rfl ?_; refine R.rg ?_; refine R.mv ?_
  first | refine R.nc ?_ | refine R.ncf ?_
  refine R.fa Tryz.runUnderlying78 Tryz.sizeOf26 ?_; refine R.fa Tryz.runUnderlying26 Tryz.sizeOf4 ?_; refine R.st Tryz.sizeOf4 ?_; refine R.nl ?_; refine R.hs (e' := []) ?_; exact R.fn (u := .tuple #[]) .nil 0 ⟨rfl, Le.rfl', sv, so, q, hV, hO, rfl⟩
theorem want_ds {D : Dict} {X : MList} (t : Tn) (hn : t.out.length ≤ 10000) : DS 53 [] X D t (({ t with r := { t.r with want := true } } : Tn).miss) := by
  intro g D1 b sv so q Z hle hX hV hO
  refine Spec.enter Tryz.func53 rfl Tryz.ntmps53 rfl ?_; refine R.sq ?_; refine R.rg ?_; refine R.mv ?_
  first | refine R.nc ?_ | refine R.ncf ?_
  refine R.fa Tryz.runUnderlying78 Tryz.sizeOf26 ?_; refine R.fa Tryz.runUnderlying26 Tryz.sizeOf4 ?_; refine R.st Tryz.sizeOf4 ?_; refine R.nl ?_; refine R.hs (e' := [(0, _)]) ?_; refine R.rg ?_; refine R.mv ?_; refine R.ca Tryz.call54 ((miss_spec ({ t with r := { t.r with want := true } } : Tn) hn).at hV hO [] Z) ?_; rintro _ D2 _ ⟨rfl, hl1, sv1, so1, q1, hV1, hO1, rfl⟩; refine R.nl ?_; refine R.hs (e' := []) ?_; exact R.fn (u := .tuple #[]) .nil 0 ⟨rfl, hl1, sv1, so1, q1, hV1, hO1, rfl⟩
theorem refresh_ds {D : Dict} {b2 : Nat} {k : Int} (t : Tn) (hn : t.out.length ≤ 10000) : DS 72 [pt b2] [ib b2 k] D t (t.refresh k) := by
  intro g D1 b sv so q Z hle hX hV hO
  have h2 := hX _ (.head _)
  refine Spec.enter Tryz.func72 rfl Tryz.ntmps72 rfl ?_; refine R.rg ?_; refine R.mv ?_; refine R.ld Tryz.isAgg3 ?_ (hc := Cs.mkM (n := 1) ((.tail _ (List.mem_append_right _ h2))) rfl); refine R.ca Tryz.call73 ((refresh_spec t k hn).at hV hO [] Z) ?_; rintro _ D2 _ ⟨rfl, hl1, sv1, so1, q1, hV1, hO1, rfl⟩; refine R.nl ?_; refine R.hs (e' := []) ?_; exact R.fn (u := .tuple #[]) .nil 0 ⟨rfl, hl1, sv1, so1, q1, hV1, hO1, rfl⟩
def Tn.up1 (t : Tn) (id : Int) : Tn := if t.r.own.null = true then t.set id (nullH id) else (t.set id (nullH id)).tell id
def Tn.up (t : Tn) (id : Int) : Tn := if t.r.asked = true then (t.up1 id).ask id else t.up1 id
theorem up1_asked (t : Tn) (id : Int) : (t.up1 id).r.asked = t.r.asked := by unfold Tn.up1; split <;> rfl
theorem up1_len (t : Tn) (id : Int) : (t.up1 id).out.length ≤ t.out.length + 1 := by
  unfold Tn.up1
  split
  · exact Nat.le_succ _
  · simp [Tn.tell, Tn.send, Tn.set]
theorem up_ds {D : Dict} {b2 : Nat} {id : Int} (t : Tn) (hn : t.out.length ≤ 5000) (hvn : t.r.vs.length ≤ 999) : DS 56 [pt b2] [ib b2 id] D t (t.up id) := by
  intro g D1 b sv so q Z hle0 hX hV hO
  have h2 := hX _ (.head _)
  have hle : Le D1 D1 := Le.rfl'
  refine Spec.enter Tryz.func56 rfl Tryz.ntmps56 rfl ?_; refine R.sq ?_; refine Run.drawY Grow.le 18 17 21 (fun D v M' => ∃ w, Vws D w (t.set id (nullH id)).r.vs ∧ M' = tb b w so { t with r := { t.r with vs := (t.set id (nullH id)).r.vs } } :: (q ++ Z)) (fun _ _ _ => False) (fun _ _ _ _ => False) [(0, _), (1, _)] mix (by kernel_rfl) (by repeat (first | exact trivial | refine ⟨rfl, ?_⟩)) (fun _ _ _ _ hR ⟨w, h1, h2⟩ => ⟨w, h1.mono hR, h2⟩) (fun _ _ _ _ _ h => h) (fun _ _ _ _ _ _ h => h) ?_; apply TY.val []; exact rfl; kernel_rfl
  · exact (.inr (fun _ _ _ h => h))
  ·rintro zD1  hzD1 
   try replace hle := hle.mono hzD1
   try replace hV := hV.mono hzD1
   refine R.mv ?_; refine R.nl ?_; exact Run.loc rfl Le.rfl' rfl
  apply TY.late []; exact rfl; kernel_rfl
  ·rintro zD2 zM hzM hzD2 
   try replace hle := hle.mono hzD2
   try replace hV := hV.mono hzD2
   refine R.mv ?_; refine R.nl ?_; exact Run.loc rfl Le.rfl' rfl
  apply TY.val []; exact rfl; kernel_rfl
  · exact (.inr (fun _ _ _ h => h))
  ·rintro zD3  hzD3 
   try replace hle := hle.mono hzD3
   try replace hV := hV.mono hzD3
   refine R.mv ?_; refine R.nl ?_; exact Run.loc rfl Le.rfl' rfl
  apply TY.val [0]; exact rfl; kernel_rfl
  · exact (.inr (fun _ _ _ h => h))
  ·rintro zD4  hzD4 _ rfl
   try replace hle := hle.mono hzD4
   try replace hV := hV.mono hzD4
   first | refine R.nc ?_ | refine R.ncf ?_
   refine R.nl ?_; exact Run.loc rfl Le.rfl' rfl
  apply TY.val [0]; exact rfl; kernel_rfl
  · exact (.inr (fun _ _ _ h => h))
  ·rintro zD5  hzD5 _ rfl
   try replace hle := hle.mono hzD5
   try replace hV := hV.mono hzD5
   refine R.fa Tryz.runUnderlying78 Tryz.sizeOf26 ?_; refine R.nl ?_; exact Run.loc rfl Le.rfl' rfl
  apply TY.val [0]; exact rfl; kernel_rfl
  · exact (.inr (fun _ _ _ h => h))
  ·rintro zD6  hzD6 _ rfl
   try replace hle := hle.mono hzD6
   try replace hV := hV.mono hzD6
   refine R.fa Tryz.runUnderlying26 Tryz.sizeOf24 ?_; refine R.nl ?_; exact Run.loc rfl Le.rfl' rfl
  apply TY.val [0]; exact rfl; kernel_rfl
  · exact (.inr (fun _ _ _ h => h))
  ·rintro zD7  hzD7 _ rfl
   try replace hle := hle.mono hzD7
   try replace hV := hV.mono hzD7
   refine R.ld Tryz.isAgg24 ?_; refine R.nl ?_; exact Run.loc rfl Le.rfl' rfl
  apply TY.val []; exact rfl; kernel_rfl
  · exact (.inr (fun _ _ _ h => h))
  ·rintro zD8  hzD8 
   try replace hle := hle.mono hzD8
   try replace hV := hV.mono hzD8
   refine R.ld Tryz.isAgg3 ?_ (hc := Cs.mkM (n := 1) ((.tail _ (List.mem_append_right _ h2))) rfl); refine R.nl ?_; exact Run.loc rfl Le.rfl' rfl
  apply TY.val []; exact rfl; kernel_rfl
  · exact (.inr (fun _ _ _ h => h))
  ·rintro zD9  hzD9 
   try replace hle := hle.mono hzD9
   try replace hV := hV.mono hzD9
   refine R.ld Tryz.isAgg3 ?_ (hc := Cs.mkM (n := 1) ((.tail _ (List.mem_append_right _ h2))) rfl); refine R.nl ?_; exact Run.loc rfl Le.rfl' rfl
  apply TY.val [0]; exact rfl; kernel_rfl
  · exact (.inr (fun _ _ _ h => h))
  ·rintro zD10  hzD10 _ rfl
   try replace hle := hle.mono hzD10
   try replace hV := hV.mono hzD10
   refine R.cg Tryz.call25 (hNull_spec id) ?_; refine R.nl ?_; exact Run.loc rfl Le.rfl' rfl
  apply TY.fctM [3, 2, 0]; exact rfl; kernel_rfl
  · exact (.inr (fun _ _ _ h => h))
  ·rintro zD11  hzD11 _ rfl _ rfl _ rfl
   try replace hle := hle.mono hzD11
   try replace hV := hV.mono hzD11
   refine R.gt Tryz.call57 (set_spec id (nullH id) hvn hV) (fun zr0_10 zD12 hzD12 hzr0_10 => ?_)
   try replace hle := hle.mono hzD12
   try replace hV := hV.mono hzD12
   refine R.nl ?_; exact Run.loc rfl hzD12 hzr0_10
  · first | exact fun _ _ _ hR h => h.mono hR | exact fun _ _ _ hR ⟨w, h1, h2⟩ => ⟨w, h1, h2.mono hR⟩
  refine TY.fct [0] (by exact rfl) (by kernel_rfl) (.inr (fun _ _ _ h => h)) (fun v D' => ∃ w, v = .tuple #[w, .int .i64 (t.set id (nullH id)).e] ∧ Vws D' w (t.set id (nullH id)).r.vs) (fun _ _ _ hR ⟨w, h1, h2⟩ => ⟨w, h1, h2.mono hR⟩) ?_ ?_
  ·rintro zD13  hzD13 zr0_10 hzr0_10
   try replace hle := hle.mono hzD13
   try replace hV := hV.mono hzD13
   refine R.mv ?_; refine R.nl ?_; exact Run.loc rfl Le.rfl' hzr0_10
  refine TY.fct [0] (by exact rfl) (by kernel_rfl) (.inr (fun _ _ _ h => h)) (fun v D' => Vws D' v (t.set id (nullH id)).r.vs) (fun _ _ _ hR h => h.mono hR) ?_ ?_
  ·rintro zD14  hzD14 _ ⟨w11, rfl, hw11⟩
   try replace hle := hle.mono hzD14
   try replace hV := hV.mono hzD14
   refine R.ex ?_; refine R.nl ?_; exact Run.loc rfl Le.rfl' hw11
  apply TY.late [1]; exact rfl; kernel_rfl
  ·rintro zD15 zM hzM hzD15 _ ⟨w11, rfl, hw11⟩
   try replace hle := hle.mono hzD15
   try replace hV := hV.mono hzD15
   refine R.ex ?_; refine R.nl ?_; exact Run.loc rfl Le.rfl' rfl
  apply TY.val [13]; exact rfl; kernel_rfl
  · exact (.inr (fun _ _ _ h => h))
  ·rintro zD16  hzD16 _ rfl
   try replace hle := hle.mono hzD16
   try replace hV := hV.mono hzD16
   first | refine R.nc ?_ | refine R.ncf ?_
   refine R.nl ?_; exact Run.loc rfl Le.rfl' rfl
  apply TY.val [0]; exact rfl; kernel_rfl
  · exact (.inr (fun _ _ _ h => h))
  ·rintro zD17  hzD17 _ rfl
   try replace hle := hle.mono hzD17
   try replace hV := hV.mono hzD17
   refine R.fa Tryz.runUnderlying78 Tryz.sizeOf26 ?_; refine R.nl ?_; exact Run.loc rfl Le.rfl' rfl
  apply TY.val [0]; exact rfl; kernel_rfl
  · exact (.inr (fun _ _ _ h => h))
  ·rintro zD18  hzD18 _ rfl
   try replace hle := hle.mono hzD18
   try replace hV := hV.mono hzD18
   refine R.fa Tryz.runUnderlying26 Tryz.sizeOf24 ?_; refine R.nl ?_; exact Run.loc rfl Le.rfl' rfl
  refine TY.eff1 (dx := (none)) [4, 0] (by exact rfl) (by exact rfl) (by kernel_rfl) ?_ ?_ ?_
  ·rintro zD19  hzD19 w12 hw12 _ rfl
   try replace hle := hle.mono hzD19
   try replace hV := hV.mono hzD19
   obtain ⟨A9, c9, hv9, _, _⟩ := hw12.form
   subst hv9
   refine R.st Tryz.sizeOf24 ?_; refine R.nl ?_; exact Run.effn Le.rfl' (⟨_, hw12, rfl⟩)
  · exact .inl (.inr (fun _ _ _ h => h))
  refine TY.fin1 (dx := (none)) (by rfl) (by kernel_rfl) (by exact rfl) ?_; rintro zD20 zv zM ⟨w, hw, rfl⟩ hzD20  _ rfl _ rfl _ rfl _ rfl w12 hw12 _ ⟨w11, rfl, hw11⟩ zr0_10 hzr0_10 _ rfl _ rfl _ rfl _ rfl _ rfl _ rfl _ rfl _ rfl _ rfl _ rfl
  try replace hle := hle.mono hzD20
  try replace hV := hV.mono hzD20
  first | refine R.nc ?_ | refine R.ncf ?_
  refine R.fa Tryz.runUnderlying78 Tryz.sizeOf35 ?_; refine R.st Tryz.sizeOf35 ?_; refine R.nl ?_; refine R.hs (e' := [(0, _), (1, _)]) ?_; refine R.sq ?_; refine R.sq ?_; refine R.rg ?_; refine R.mv ?_
  first | refine R.nc ?_ | refine R.ncf ?_
  refine R.fa Tryz.runUnderlying78 Tryz.sizeOf26 ?_; refine R.fa Tryz.runUnderlying26 Tryz.sizeOf23 ?_; refine R.fa Tryz.runUnderlying23 Tryz.sizeOf4 ?_; refine R.ld Tryz.isAgg4 ?_; refine R.nt ?_; refine R.nl ?_; refine R.hs (e' := [(0, _), (1, _), (28, _)]) ?_; refine R.cd (fun zc21 => ?_) (fun zc21 => ?_)
  ·
   have h3 : (!t.r.own.null) = true := zc21
   have h1 : ¬ t.r.own.null = true := by simpa using h3
   have hs1 : (t.set id (nullH id)).tell id = t.up1 id := by rw [Tn.up1, if_neg h1]
   refine R.rg ?_; refine R.mv ?_; refine R.ld Tryz.isAgg3 ?_ (hc := Cs.mkM (n := 1) ((.tail _ (List.mem_append_right _ h2))) rfl); refine R.ca Tryz.call58 ((tell_spec (t.set id (nullH id)) id (by show t.out.length ≤ 10000; omega)).at hw hO [] Z) ?_; rintro _ D2 _ ⟨rfl, hl1, sv1, so1, q1, hV1, hO1, rfl⟩
   rw [hs1] at hV1 hO1 ⊢
   refine R.nl ?_; refine R.hs (e' := [(0, _), (1, _)]) ?_; refine R.sq ?_; refine R.rg ?_; refine R.mv ?_
   first | refine R.nc ?_ | refine R.ncf ?_
   refine R.fa Tryz.runUnderlying78 Tryz.sizeOf26 ?_; refine R.fa Tryz.runUnderlying26 Tryz.sizeOf4 ?_; refine R.ld Tryz.isAgg4 ?_; refine R.nl ?_; refine R.hs (e' := [(0, _), (1, _), (36, _)]) ?_; refine R.cd (fun zc22 => ?_) (fun zc22 => ?_)
   ·
    have h4 : t.r.asked = true := by rw [← up1_asked t id]; exact zc22
    have hs : t.up id = (t.up1 id).ask id := by rw [Tn.up, if_pos h4]
    refine R.rg ?_; refine R.mv ?_; refine R.ld Tryz.isAgg3 ?_ (hc := Cs.mkM (n := 1) ((.tail _ (List.mem_append_right _ h2))) rfl); refine R.bd Tryz.zeroValue30 places30 ?_; refine R.ca Tryz.call59 ((send_spec (t.up1 id) id ⟨1, 0, z0H, z0L, 0⟩ (by have := up1_len t id; omega)).at hV1 hO1 [] Z) ?_; rintro _ D3 _ ⟨rfl, hl3, sv3, so3, q3, hV3, hO3, rfl⟩; refine R.nl ?_; refine R.hs (e' := []) ?_
    rw [hs]
    first
    | exact R.fn (u := .tuple #[]) .nil 0 ⟨rfl, (hle.trans hl1).trans hl3, sv3, so3, q3, hV3, hO3, rfl⟩
    | exact R.fn (u := .tuple #[]) .nil 0 ⟨rfl, hle.trans hl1, _, _, _, hV1, hO1, rfl⟩
   ·
    have h4 : t.r.asked = false := by rw [← up1_asked t id]; exact zc22
    have hs : t.up id = t.up1 id := by rw [Tn.up, if_neg (by simp [h4])]
    refine Run.skip ?_
    rw [hs]
    first
    | exact R.fn (u := .tuple #[]) .nil 0 ⟨rfl, (hle.trans hl1).trans hl3, sv3, so3, q3, hV3, hO3, rfl⟩
    | exact R.fn (u := .tuple #[]) .nil 0 ⟨rfl, hle.trans hl1, _, _, _, hV1, hO1, rfl⟩
  ·
   have h3 : (!t.r.own.null) = false := zc21
   have h1 : t.r.own.null = true := by simpa using h3
   have hs1 : t.set id (nullH id) = t.up1 id := by rw [Tn.up1, if_pos h1]
   have hl1 := Le.rfl' (D := zD20)
   have hV1 := hw
   have hO1 : UO so (t.set id (nullH id)).out q := hO
   rw [hs1] at hV1 hO1
   refine Run.st (M' := tb b w so (t.up1 id) :: (q ++ Z)) (fun w hs => by rw [← hs1]; exact hs) ?_; refine Run.skip ?_; refine R.sq ?_; refine R.rg ?_; refine R.mv ?_
   first | refine R.nc ?_ | refine R.ncf ?_
   refine R.fa Tryz.runUnderlying78 Tryz.sizeOf26 ?_; refine R.fa Tryz.runUnderlying26 Tryz.sizeOf4 ?_; refine R.ld Tryz.isAgg4 ?_; refine R.nl ?_; refine R.hs (e' := [(0, _), (1, _), (36, _)]) ?_; refine R.cd (fun zc23 => ?_) (fun zc23 => ?_)
   ·
    have h4 : t.r.asked = true := by rw [← up1_asked t id]; exact zc23
    have hs : t.up id = (t.up1 id).ask id := by rw [Tn.up, if_pos h4]
    refine R.rg ?_; refine R.mv ?_; refine R.ld Tryz.isAgg3 ?_ (hc := Cs.mkM (n := 1) ((.tail _ (List.mem_append_right _ h2))) rfl); refine R.bd Tryz.zeroValue30 places30 ?_; refine R.ca Tryz.call59 ((send_spec (t.up1 id) id ⟨1, 0, z0H, z0L, 0⟩ (by have := up1_len t id; omega)).at hV1 hO1 [] Z) ?_; rintro _ D3 _ ⟨rfl, hl3, sv3, so3, q3, hV3, hO3, rfl⟩; refine R.nl ?_; refine R.hs (e' := []) ?_
    rw [hs]
    first
    | exact R.fn (u := .tuple #[]) .nil 0 ⟨rfl, (hle.trans hl1).trans hl3, sv3, so3, q3, hV3, hO3, rfl⟩
    | exact R.fn (u := .tuple #[]) .nil 0 ⟨rfl, hle.trans hl1, _, _, _, hV1, hO1, rfl⟩
   ·
    have h4 : t.r.asked = false := by rw [← up1_asked t id]; exact zc23
    have hs : t.up id = t.up1 id := by rw [Tn.up, if_neg (by simp [h4])]
    refine Run.skip ?_
    rw [hs]
    first
    | exact R.fn (u := .tuple #[]) .nil 0 ⟨rfl, (hle.trans hl1).trans hl3, sv3, so3, q3, hV3, hO3, rfl⟩
    | exact R.fn (u := .tuple #[]) .nil 0 ⟨rfl, hle.trans hl1, _, _, _, hV1, hO1, rfl⟩
def Tn.drop (t : Tn) (id : Int) : Tn := { t with r := { t.r with vs := if dropE t.r.vs id = 0 then dropV t.r.vs id else [] }, e := dropE t.r.vs id }
theorem drop_len (t : Tn) (id : Int) : (t.drop id).r.vs.length ≤ t.r.vs.length := by
  unfold Tn.drop
  simp only
  split
  · exact List.length_filter_le _ _
  · simp
theorem down_ds {D : Dict} {b2 : Nat} {id : Int} (t : Tn) (hn : t.out.length ≤ 5000) (hvn : t.r.vs.length ≤ 999) : DS 62 [pt b2] [ib b2 id] D t (t.drop id).lose := by
  intro g D1 b sv so q Z hle0 hX hV hO
  have h2 := hX _ (.head _)
  have hle : Le D1 D1 := Le.rfl'
  have hdl := drop_len t id
  refine Spec.enter Tryz.func62 rfl Tryz.ntmps62 rfl ?_; refine R.sq ?_; refine Run.drawY Grow.le 16 15 19 (fun D v M' => ∃ w, Vws D w (t.drop id).r.vs ∧ M' = tb b w so { t with r := { t.r with vs := (t.drop id).r.vs } } :: (q ++ Z)) (fun _ _ _ => False) (fun _ _ _ _ => False) [(0, _), (1, _)] mix (by kernel_rfl) (by repeat (first | exact trivial | refine ⟨rfl, ?_⟩)) (fun _ _ _ _ hR ⟨w, h1, h2⟩ => ⟨w, h1.mono hR, h2⟩) (fun _ _ _ _ _ h => h) (fun _ _ _ _ _ _ h => h) ?_; apply TY.val []; exact rfl; kernel_rfl
  · exact (.inr (fun _ _ _ h => h))
  ·rintro zD1  hzD1 
   try replace hle := hle.mono hzD1
   try replace hV := hV.mono hzD1
   refine R.mv ?_; refine R.nl ?_; exact Run.loc rfl Le.rfl' rfl
  apply TY.late []; exact rfl; kernel_rfl
  ·rintro zD2 zM hzM hzD2 
   try replace hle := hle.mono hzD2
   try replace hV := hV.mono hzD2
   refine R.mv ?_; refine R.nl ?_; exact Run.loc rfl Le.rfl' rfl
  apply TY.val []; exact rfl; kernel_rfl
  · exact (.inr (fun _ _ _ h => h))
  ·rintro zD3  hzD3 
   try replace hle := hle.mono hzD3
   try replace hV := hV.mono hzD3
   refine R.mv ?_; refine R.nl ?_; exact Run.loc rfl Le.rfl' rfl
  apply TY.val [0]; exact rfl; kernel_rfl
  · exact (.inr (fun _ _ _ h => h))
  ·rintro zD4  hzD4 _ rfl
   try replace hle := hle.mono hzD4
   try replace hV := hV.mono hzD4
   first | refine R.nc ?_ | refine R.ncf ?_
   refine R.nl ?_; exact Run.loc rfl Le.rfl' rfl
  apply TY.val [0]; exact rfl; kernel_rfl
  · exact (.inr (fun _ _ _ h => h))
  ·rintro zD5  hzD5 _ rfl
   try replace hle := hle.mono hzD5
   try replace hV := hV.mono hzD5
   refine R.fa Tryz.runUnderlying78 Tryz.sizeOf26 ?_; refine R.nl ?_; exact Run.loc rfl Le.rfl' rfl
  apply TY.val [0]; exact rfl; kernel_rfl
  · exact (.inr (fun _ _ _ h => h))
  ·rintro zD6  hzD6 _ rfl
   try replace hle := hle.mono hzD6
   try replace hV := hV.mono hzD6
   refine R.fa Tryz.runUnderlying26 Tryz.sizeOf24 ?_; refine R.nl ?_; exact Run.loc rfl Le.rfl' rfl
  apply TY.val [0]; exact rfl; kernel_rfl
  · exact (.inr (fun _ _ _ h => h))
  ·rintro zD7  hzD7 _ rfl
   try replace hle := hle.mono hzD7
   try replace hV := hV.mono hzD7
   refine R.ld Tryz.isAgg24 ?_; refine R.nl ?_; exact Run.loc rfl Le.rfl' rfl
  apply TY.val []; exact rfl; kernel_rfl
  · exact (.inr (fun _ _ _ h => h))
  ·rintro zD8  hzD8 
   try replace hle := hle.mono hzD8
   try replace hV := hV.mono hzD8
   refine R.ld Tryz.isAgg3 ?_ (hc := Cs.mkM (n := 1) ((.tail _ (List.mem_append_right _ h2))) rfl); refine R.nl ?_; exact Run.loc rfl Le.rfl' rfl
  apply TY.fctM [1, 0]; exact rfl; kernel_rfl
  · exact (.inr (fun _ _ _ h => h))
  ·rintro zD9  hzD9 _ rfl _ rfl
   try replace hle := hle.mono hzD9
   try replace hV := hV.mono hzD9
   refine R.gt Tryz.call61 (drop_spec id (by omega) hV) (fun zr0_8 zD10 hzD10 hzr0_8 => ?_)
   try replace hle := hle.mono hzD10
   try replace hV := hV.mono hzD10
   refine R.nl ?_; exact Run.loc rfl hzD10 hzr0_8
  · first | exact fun _ _ _ hR h => h.mono hR | exact fun _ _ _ hR ⟨w, h1, h2⟩ => ⟨w, h1, h2.mono hR⟩
  refine TY.fct [0] (by exact rfl) (by kernel_rfl) (.inr (fun _ _ _ h => h)) (fun v D' => ∃ w, v = .tuple #[w, .int .i64 (t.drop id).e] ∧ Vws D' w (t.drop id).r.vs) (fun _ _ _ hR ⟨w, h1, h2⟩ => ⟨w, h1, h2.mono hR⟩) ?_ ?_
  ·rintro zD11  hzD11 zr0_8 hzr0_8
   try replace hle := hle.mono hzD11
   try replace hV := hV.mono hzD11
   refine R.mv ?_; refine R.nl ?_; exact Run.loc rfl Le.rfl' hzr0_8
  refine TY.fct [0] (by exact rfl) (by kernel_rfl) (.inr (fun _ _ _ h => h)) (fun v D' => Vws D' v (t.drop id).r.vs) (fun _ _ _ hR h => h.mono hR) ?_ ?_
  ·rintro zD12  hzD12 _ ⟨w11, rfl, hw11⟩
   try replace hle := hle.mono hzD12
   try replace hV := hV.mono hzD12
   refine R.ex ?_; refine R.nl ?_; exact Run.loc rfl Le.rfl' hw11
  apply TY.late [1]; exact rfl; kernel_rfl
  ·rintro zD13 zM hzM hzD13 _ ⟨w11, rfl, hw11⟩
   try replace hle := hle.mono hzD13
   try replace hV := hV.mono hzD13
   refine R.ex ?_; refine R.nl ?_; exact Run.loc rfl Le.rfl' rfl
  apply TY.val [11]; exact rfl; kernel_rfl
  · exact (.inr (fun _ _ _ h => h))
  ·rintro zD14  hzD14 _ rfl
   try replace hle := hle.mono hzD14
   try replace hV := hV.mono hzD14
   first | refine R.nc ?_ | refine R.ncf ?_
   refine R.nl ?_; exact Run.loc rfl Le.rfl' rfl
  apply TY.val [0]; exact rfl; kernel_rfl
  · exact (.inr (fun _ _ _ h => h))
  ·rintro zD15  hzD15 _ rfl
   try replace hle := hle.mono hzD15
   try replace hV := hV.mono hzD15
   refine R.fa Tryz.runUnderlying78 Tryz.sizeOf26 ?_; refine R.nl ?_; exact Run.loc rfl Le.rfl' rfl
  apply TY.val [0]; exact rfl; kernel_rfl
  · exact (.inr (fun _ _ _ h => h))
  ·rintro zD16  hzD16 _ rfl
   try replace hle := hle.mono hzD16
   try replace hV := hV.mono hzD16
   refine R.fa Tryz.runUnderlying26 Tryz.sizeOf24 ?_; refine R.nl ?_; exact Run.loc rfl Le.rfl' rfl
  refine TY.eff1 (dx := (none)) [4, 0] (by exact rfl) (by exact rfl) (by kernel_rfl) ?_ ?_ ?_
  ·rintro zD17  hzD17 w12 hw12 _ rfl
   try replace hle := hle.mono hzD17
   try replace hV := hV.mono hzD17
   obtain ⟨A9, c9, hv9, _, _⟩ := hw12.form
   subst hv9
   refine R.st Tryz.sizeOf24 ?_; refine R.nl ?_; exact Run.effn Le.rfl' (⟨_, hw12, rfl⟩)
  · exact .inl (.inr (fun _ _ _ h => h))
  refine TY.fin1 (dx := (none)) (by rfl) (by kernel_rfl) (by exact rfl) ?_; rintro zD18 zv zM ⟨w, hw, rfl⟩ hzD18  _ rfl _ rfl _ rfl _ rfl w12 hw12 _ ⟨w11, rfl, hw11⟩ zr0_8 hzr0_8 _ rfl _ rfl _ rfl _ rfl _ rfl _ rfl _ rfl _ rfl
  try replace hle := hle.mono hzD18
  try replace hV := hV.mono hzD18
  first | refine R.nc ?_ | refine R.ncf ?_
  refine R.fa Tryz.runUnderlying78 Tryz.sizeOf35 ?_; refine R.st Tryz.sizeOf35 ?_; refine R.nl ?_; refine R.hs (e' := [(0, _)]) ?_; refine R.rg ?_; refine R.mv ?_; refine R.ca Tryz.call63 ((lose_spec (t.drop id) hn (by omega)).at hw hO [] Z) ?_; rintro _ D2 _ ⟨rfl, hl1, sv1, so1, q1, hV1, hO1, rfl⟩; refine R.nl ?_; refine R.hs (e' := []) ?_; exact R.fn (u := .tuple #[]) .nil 0 ⟨rfl, hle.trans hl1, sv1, so1, q1, hV1, hO1, rfl⟩
end Go.Proofs.YtgdpjpmjcpieiaaGreat

/- The calls of a route: what a neighbour says; how a call is run. No condition. -/
namespace Go.Proofs.YtgdpjpmjcpieiaaGreat
open Go
set_option linter.unusedVariables false
set_option linter.unusedSimpArgs false
set_option maxRecDepth 100000
set_option maxHeartbeats 0
def fK (k : Int) : FuncId := if k = 1 then 66 else if k = 2 then 67 else if k = 3 then 68 else 69
def Tn.hear (t : Tn) (src : Int) (o : Ob) : Tn := if o.kind = 1 then t.qry src else if o.kind = 2 then t.upd src o.h else if o.kind = 3 then t.clr o.l else t.opt src o
theorem okO_kind {o : Ob} (h : okO o = true) : (o.kind = 1 ∨ o.kind = 2 ∨ o.kind = 3 ∨ o.kind = 4) ∧ (o.h.delta ≤ 1099511627776 ∧ -1099511627776 ≤ o.h.delta) := by
  have hH : ∀ h : Ht, okH h = true → h.delta ≤ 1099511627776 ∧ -1099511627776 ≤ h.delta := by
    intro h hk
    simp only [okH, decide_eq_true_eq] at hk
    obtain ⟨_, _, hk⟩ := hk
    split at hk
    · omega
    · omega
  simp only [okO, decide_eq_true_eq] at h
  obtain ⟨_, _, h⟩ := h
  rcases h with ⟨h1, _, h2, _⟩ | ⟨h1, _, _, h2⟩ | ⟨h1, h2, _⟩ | ⟨h1, _, _, _, h2, _⟩
  · rw [h2]; exact ⟨by omega, by simp⟩
  · exact ⟨by omega, hH _ h2⟩
  · rw [h2]; exact ⟨by omega, by simp⟩
  · exact ⟨by omega, hH _ h2⟩
theorem hear_ms {b : Nat} (t : Tn) (src : Int) (o : Ob) (ho : okO o = true) (hn : t.out.length ≤ 1000) (hvn : t.r.vs.length ≤ 999) : MS (fK o.kind) [pt b, .int .i64 src, .agg (Ob.cells o).toArray] b t (t.hear src o) := by
  obtain ⟨hk, hd⟩ := okO_kind ho
  unfold fK Tn.hear
  rcases hk with h | h | h | h
  · rw [if_pos h, if_pos h]; exact qry_spec t src o (by omega)
  · rw [if_neg (by omega), if_pos h, if_neg (by omega), if_pos h]; exact upd_spec t src o (by omega) hvn
  · rw [if_neg (by omega), if_neg (by omega), if_pos h, if_neg (by omega), if_neg (by omega), if_pos h]; exact clr_spec t src o hn (by omega)
  · rw [if_neg (by omega), if_neg (by omega), if_neg (by omega), if_neg (by omega), if_neg (by omega), if_neg (by omega)]; exact opt_spec t src o hn hvn hd
theorem hear_ds {D : Dict} {b2 b3 : Nat} {src : Int} {o : Ob} (t : Tn) (ho : okO o = true) (hn : t.out.length ≤ 1000) (hvn : t.r.vs.length ≤ 999) : DS 65 [pt b3, pt b2] [ob b3 o, ib b2 src] D t (t.hear src o) := by
  intro g D1 b sv so q Z hle0 hX hV hO
  have h3 := hX _ (.head _)
  have h2 := hX _ (.tail _ (.head _))
  have hk := (okO_kind ho).1
  have hcall : ∀ args w, (callFunc (fK o.kind) args).run Tryz.prog w = .ok (.enter (fK o.kind) args) w := by
    unfold fK
    rcases hk with h | h | h | h
    · rw [if_pos h]; exact Tryz.call66
    · rw [if_neg (by omega), if_pos h]; exact Tryz.call67
    · rw [if_neg (by omega), if_neg (by omega), if_pos h]; exact Tryz.call68
    · rw [if_neg (by omega), if_neg (by omega), if_neg (by omega)]; exact Tryz.call69
  refine Spec.enter Tryz.func65 rfl Tryz.ntmps65 rfl ?_; refine R.sq ?_; refine R.rg ?_; refine R.mm (fun b7 hb7 => ?_); refine R.mv ?_; refine R.mf ?_; refine R.mi Tryz.underlying85 Tryz.underlying3 ?_; refine R.mv ?_; refine R.mf ?_; refine R.mi Tryz.underlying85 Tryz.underlying3 ?_; refine R.mv ?_; refine R.mf ?_; refine R.mi Tryz.underlying85 Tryz.underlying3 ?_; refine R.mv ?_; refine R.mf ?_; refine R.mi Tryz.underlying85 Tryz.underlying3 ?_; refine R.mv ?_; refine R.as ?_; refine R.nl ?_; refine R.hs (e' := [(1, _), (2, _), (4, _)]) ?_; refine R.rg ?_; refine R.mv ?_; refine R.fa Tryz.runUnderlying30 Tryz.sizeOf3 ?_; refine R.ld Tryz.isAgg3 ?_ (hc := Cs.mkM (n := 1) ((.tail _ (.tail _ (List.mem_append_right _ h3)))) rfl)
  obtain ⟨j, hj⟩ : ∃ j, Instr.findNow (.int .i64) (.int .i64 o.kind) ([] ++ [(⟨.int .i64 1, .func (.func 66) #[pt b] #[], 0⟩ : MapEntry)] ++ [⟨.int .i64 2, .func (.func 67) #[pt b] #[], 1⟩] ++ [⟨.int .i64 3, .func (.func 68) #[pt b] #[], 2⟩] ++ [⟨.int .i64 4, .func (.func 69) #[pt b] #[], 3⟩]) 0 = some (some (j, .func (.func (fK o.kind)) #[pt b] #[])) := by
    rcases hk with h | h | h | h
    · exact ⟨0, by rw [h]; rfl⟩
    · exact ⟨1, by rw [h]; rfl⟩
    · exact ⟨2, by rw [h]; rfl⟩
    · exact ⟨3, by rw [h]; rfl⟩
  refine R.mlk Tryz.underlying85 Tryz.underlying3 (.head _) hj ?_; refine R.ld Tryz.isAgg3 ?_ (hc := Cs.mkM (n := 1) ((.tail _ (.tail _ (List.mem_append_right _ h2)))) rfl); refine R.lA 12 Tryz.isAgg30 Tryz.sizeOf30 ?_ (hc := CsN.mkM ((.tail _ (.tail _ (List.mem_append_right _ h3)))) rfl); refine Run.callV (fs := [pt b]) (cap := []) (vs := [.int .i64 src, .agg (Ob.cells o).toArray]) hcall rfl rfl rfl ((hear_ms t src o ho hn hvn).at hV hO [_] Z) ?_; rintro _ D2 _ ⟨rfl, hl1, sv1, so1, q1, hV1, hO1, rfl⟩; refine R.nl ?_; refine R.hs (e' := []) ?_; exact R.fn (u := .tuple #[]) .nil 1 ⟨rfl, hl1, sv1, so1, q1, hV1, hO1, rfl⟩
end Go.Proofs.YtgdpjpmjcpieiaaGreat
