/- 'BoardOnce: each cell is one thing' -/
import Derived.Test.YtlfhjmfelbomaaaDoorBArith
set_option linter.unusedSimpArgs false
set_option linter.unusedVariables false
namespace Go.Proofs.YtlfhjmfelbomaaaDoor
open Go.Rex
noncomputable def onceE : Ex := { sched := sched, loops := [], cons := [isCon, awakeCon1], fin := lawConG 27 ss2 5 [shI] }
def onceOut : Out :=
  .call 1 { lo := 0, lob := 0, bk := [(1, { blk := 1 }), (0, { blk := 0 })] } 1 <|
   .ob (.inr .i64 (.mod (.wrap .u64 (.var 0)) (.lit 85))) <|
   .br (.or (.ilt (.mod (.wrap .u64 (.var 0)) (.lit 85)) (.lit 0)) (.ile (.lit 85) (.mod (.wrap .u64 (.var 0)) (.lit 85))))
   (.fin { lo := 1, lob := 4, bv := [(1, (.lit false))] })
   (.br (.ilt (.mod (.wrap .u64 (.var 0)) (.lit 85)) (.lit 24))
    (.br (.ile (.lit 24) (.mod (.wrap .u64 (.var 0)) (.lit 85)))
     (.fin { lo := 1, lob := 4, bv := [(1, (.lit false))] })
     (.fin { lo := 1, lob := 4, bv := [(1, (.lit true))] }))
    (.br (.ilt (.mod (.wrap .u64 (.var 0)) (.lit 85)) (.lit 25))
     (.fin { lo := 1, lob := 4, bv := [(1, (.ieq (.lit 24) (.mod (.wrap .u64 (.var 0)) (.lit 85))))] })
     (.br (.ilt (.mod (.wrap .u64 (.var 0)) (.lit 85)) (.lit 79))
      (.ob (.inr .i64 (.sub (.mod (.wrap .u64 (.var 0)) (.lit 85)) (.lit 25))) <|
       .ob (.inr .i64 (.div (.sub (.mod (.wrap .u64 (.var 0)) (.lit 85)) (.lit 25)) (.lit 9))) <|
       .br (.not (.and (.ile (.lit 0) (.div (.sub (.mod (.wrap .u64 (.var 0)) (.lit 85)) (.lit 25)) (.lit 9))) (.ilt (.div (.sub (.mod (.wrap .u64 (.var 0)) (.lit 85)) (.lit 25)) (.lit 9)) (.lit 6))))
       (.fin { lo := 1, lob := 4, bv := [(1, (.lit false))] })
       (.br (.or (.ilt (.mod (.sub (.mod (.wrap .u64 (.var 0)) (.lit 85)) (.lit 25)) (.lit 9)) (.lit 0)) (.ile (.lit 9) (.mod (.sub (.mod (.wrap .u64 (.var 0)) (.lit 85)) (.lit 25)) (.lit 9))))
        (.fin { lo := 1, lob := 4, bv := [(1, (.lit false))] })
        (.ob (.inr .i64 (.mul (.div (.sub (.mod (.wrap .u64 (.var 0)) (.lit 85)) (.lit 25)) (.lit 9)) (.lit 9))) <|
         .ob (.inr .i64 (.add (.lit 25) (.mul (.div (.sub (.mod (.wrap .u64 (.var 0)) (.lit 85)) (.lit 25)) (.lit 9)) (.lit 9)))) <|
         .ob (.inr .i64 (.add (.add (.lit 25) (.mul (.div (.sub (.mod (.wrap .u64 (.var 0)) (.lit 85)) (.lit 25)) (.lit 9)) (.lit 9))) (.mod (.sub (.mod (.wrap .u64 (.var 0)) (.lit 85)) (.lit 25)) (.lit 9)))) <|
         .fin { lo := 1, lob := 4, bv := [(1, (.ieq (.add (.add (.lit 25) (.mul (.div (.sub (.mod (.wrap .u64 (.var 0)) (.lit 85)) (.lit 25)) (.lit 9)) (.lit 9))) (.mod (.sub (.mod (.wrap .u64 (.var 0)) (.lit 85)) (.lit 25)) (.lit 9))) (.mod (.wrap .u64 (.var 0)) (.lit 85))))] })))
      (.ob (.inr .i64 (.sub (.mod (.wrap .u64 (.var 0)) (.lit 85)) (.lit 79))) <|
       .br (.not (.and (.ile (.lit 0) (.sub (.mod (.wrap .u64 (.var 0)) (.lit 85)) (.lit 79))) (.ilt (.sub (.mod (.wrap .u64 (.var 0)) (.lit 85)) (.lit 79)) (.lit 6))))
       (.fin { lo := 1, lob := 4, bv := [(1, (.lit false))] })
       (.ob (.inr .i64 (.add (.lit 79) (.sub (.mod (.wrap .u64 (.var 0)) (.lit 85)) (.lit 79)))) <|
        .fin { lo := 1, lob := 4, bv := [(1, (.ieq (.add (.lit 79) (.sub (.mod (.wrap .u64 (.var 0)) (.lit 85)) (.lit 79))) (.mod (.wrap .u64 (.var 0)) (.lit 85))))] })))))
theorem once_run : exec tab onceE 4000 [] (cfg0 5 (lawConG 27 ss2 5 [shI]).nv [] (sentGl ss2 0) (lawConG 27 ss2 5 [shI]).hp (lawConG 27 ss2 5 [shI]).args) = onceOut := by kernel_rfl
set_option maxHeartbeats 0 in
theorem once_sat (ρ : Env) (hpre : lawPre [shI] ρ.num) : Sat (lawPostG ss2 [shI]) lawSem1 [] ρ onceOut := by
  unfold onceOut
  refine Sat.call rfl trivial fun e0 _ => ?_
  have hq : lawPre [shI] (ρ.join (lawConG 27 ss2 5 [shI]).nv e0).num := hpre
  generalize hQ : ρ.join (lawConG 27 ss2 5 [shI]).nv e0 = q at *
  replace hQ : ρ.join 1 e0 = q := hQ
  rw [hQ]
  clear hpre hQ
  simp only [lawPre, List.flatMap, List.map, List.flatten, shA3, shI, shAddr, shSpan, List.append, List.cons_append, List.nil_append, List.append_nil, preC, Env.num, D.le, D.lef, D.lt, D.ltf, D.eq, D.eqf, D.not, D.notf, D.and, D.andf, D.or, D.orf, D.inr, D.var, D.lit, D.cellB, D.beq, D.beqf, D.litI, D.varI, D.add, D.sub, D.mul, D.min, D.max, D.cellI, D.i64min, D.i64max] at hq
  repeat' first
    | refine Sat.br (fun _ => ?_) (fun _ => ?_)
    | refine Sat.ob ?_ ?_
    | refine Sat.fin (Eq.trans (b := (Sub.nenv _ _).bv 1) rfl ?_)
    | refine Sat.call rfl trivial (fun _ _ => ?_)
  all_goals
    simp [Sub.nenv, assoc, D.le, D.lef, D.lt, D.ltf, D.eq, D.eqf, D.not, D.notf, D.and, D.andf, D.or, D.orf, D.inr, D.var, D.lit, D.litI, D.varI, D.add, D.sub, D.mul, D.mod, D.div, D.wrap, D.i64min, D.i64max, D.ite, beqI, Env.join, IntKind.wrap_u64, tm, td] at *
    try omega
theorem once_con : ConOK Tryd.prog (lawConG 27 ss2 5 [shI]) (lawPre [shI]) (lawPostG ss2 [shI]) :=
  con_ok tabOK (E := onceE) (cs := lawSem1) rfl lawSem1_ok schedOK rfl once_run (by kernel_rfl) (fun ρ _ p hp => by cases hp) once_sat
end Go.Proofs.YtlfhjmfelbomaaaDoor
