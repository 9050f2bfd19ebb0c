/- 'BoardApart: unlike things in unlike cells' -/
import Derived.Test.YtlfhjmfelbomaaaDoorBArith
set_option linter.unusedSimpArgs false
set_option linter.unusedVariables false
namespace Go.Proofs.YtlfhjmfelbomaaaDoor
open Go.Rex
noncomputable def apartE : Ex := { sched := sched, loops := [], cons := [isCon, awakeCon1], fin := lawConG 27 ss1 3 [shA3, shA3] }
def apartOut : Out :=
  .call 1 { lo := 0, lob := 0, bk := [(1, { blk := 1 }), (0, { blk := 0 })] } 6 <|
   .br (.ieq (.mod (.wrap .u64 (.var 0)) (.lit 4)) (.lit 0))
   (.br (.or (.ilt (.var 2) (.lit 0)) (.ile (.lit 24) (.var 2)))
    (.br (.ieq (.mod (.wrap .u64 (.var 3)) (.lit 4)) (.lit 0))
     (.br (.or (.ilt (.var 5) (.lit 0)) (.ile (.lit 24) (.var 5)))
      (.fin { lo := 6, lob := 2, bv := [(6, (.lit true))] })
      (.ob (.inr .i64 (.var 5)) <|
       .fin { lo := 6, lob := 2, bv := [(6, (.lit true))] }))
     (.br (.ieq (.mod (.wrap .u64 (.var 3)) (.lit 4)) (.lit 1))
      (.br (.not (.and (.ile (.lit 0) (.var 4)) (.ilt (.var 4) (.lit 6))))
       (.fin { lo := 6, lob := 2, bv := [(6, (.lit true))] })
       (.br (.or (.ilt (.var 5) (.lit 0)) (.ile (.lit 9) (.var 5)))
        (.fin { lo := 6, lob := 2, bv := [(6, (.lit true))] })
        (.ob (.inr .i64 (.mul (.var 4) (.lit 9))) <|
         .ob (.inr .i64 (.add (.lit 25) (.mul (.var 4) (.lit 9)))) <|
         .ob (.inr .i64 (.add (.add (.lit 25) (.mul (.var 4) (.lit 9))) (.var 5))) <|
         .fin { lo := 6, lob := 2, bv := [(6, (.lit true))] })))
      (.br (.ieq (.mod (.wrap .u64 (.var 3)) (.lit 4)) (.lit 2))
       (.br (.not (.and (.ile (.lit 0) (.var 4)) (.ilt (.var 4) (.lit 6))))
        (.fin { lo := 6, lob := 2, bv := [(6, (.lit true))] })
        (.ob (.inr .i64 (.add (.lit 79) (.var 4))) <|
         .fin { lo := 6, lob := 2, bv := [(6, (.lit true))] }))
       (.fin { lo := 6, lob := 2, bv := [(6, (.lit true))] }))))
    (.ob (.inr .i64 (.var 2)) <|
     .br (.ieq (.mod (.wrap .u64 (.var 3)) (.lit 4)) (.lit 0))
     (.br (.or (.ilt (.var 5) (.lit 0)) (.ile (.lit 24) (.var 5)))
      (.fin { lo := 6, lob := 2, bv := [(6, (.lit true))] })
      (.ob (.inr .i64 (.var 5)) <|
       .fin { lo := 6, lob := 2, bv := [(6, (.lit true))] }))
     (.br (.ieq (.mod (.wrap .u64 (.var 3)) (.lit 4)) (.lit 1))
      (.br (.not (.and (.ile (.lit 0) (.var 4)) (.ilt (.var 4) (.lit 6))))
       (.fin { lo := 6, lob := 2, bv := [(6, (.lit true))] })
       (.br (.or (.ilt (.var 5) (.lit 0)) (.ile (.lit 9) (.var 5)))
        (.fin { lo := 6, lob := 2, bv := [(6, (.lit true))] })
        (.ob (.inr .i64 (.mul (.var 4) (.lit 9))) <|
         .ob (.inr .i64 (.add (.lit 25) (.mul (.var 4) (.lit 9)))) <|
         .ob (.inr .i64 (.add (.add (.lit 25) (.mul (.var 4) (.lit 9))) (.var 5))) <|
         .fin { lo := 6, lob := 2, bv := [(6, (.not (.ieq (.var 2) (.add (.add (.lit 25) (.mul (.var 4) (.lit 9))) (.var 5)))))] })))
      (.br (.ieq (.mod (.wrap .u64 (.var 3)) (.lit 4)) (.lit 2))
       (.br (.not (.and (.ile (.lit 0) (.var 4)) (.ilt (.var 4) (.lit 6))))
        (.fin { lo := 6, lob := 2, bv := [(6, (.lit true))] })
        (.ob (.inr .i64 (.add (.lit 79) (.var 4))) <|
         .fin { lo := 6, lob := 2, bv := [(6, (.not (.ieq (.var 2) (.add (.lit 79) (.var 4)))))] }))
       (.fin { lo := 6, lob := 2, bv := [(6, (.not (.ieq (.var 2) (.lit 24))))] })))))
   (.br (.ieq (.mod (.wrap .u64 (.var 0)) (.lit 4)) (.lit 1))
    (.br (.not (.and (.ile (.lit 0) (.var 1)) (.ilt (.var 1) (.lit 6))))
     (.br (.ieq (.mod (.wrap .u64 (.var 3)) (.lit 4)) (.lit 0))
      (.br (.or (.ilt (.var 5) (.lit 0)) (.ile (.lit 24) (.var 5)))
       (.fin { lo := 6, lob := 2, bv := [(6, (.lit true))] })
       (.ob (.inr .i64 (.var 5)) <|
        .fin { lo := 6, lob := 2, bv := [(6, (.lit true))] }))
      (.br (.ieq (.mod (.wrap .u64 (.var 3)) (.lit 4)) (.lit 1))
       (.br (.not (.and (.ile (.lit 0) (.var 4)) (.ilt (.var 4) (.lit 6))))
        (.fin { lo := 6, lob := 2, bv := [(6, (.lit true))] })
        (.br (.or (.ilt (.var 5) (.lit 0)) (.ile (.lit 9) (.var 5)))
         (.fin { lo := 6, lob := 2, bv := [(6, (.lit true))] })
         (.ob (.inr .i64 (.mul (.var 4) (.lit 9))) <|
          .ob (.inr .i64 (.add (.lit 25) (.mul (.var 4) (.lit 9)))) <|
          .ob (.inr .i64 (.add (.add (.lit 25) (.mul (.var 4) (.lit 9))) (.var 5))) <|
          .fin { lo := 6, lob := 2, bv := [(6, (.lit true))] })))
       (.br (.ieq (.mod (.wrap .u64 (.var 3)) (.lit 4)) (.lit 2))
        (.br (.not (.and (.ile (.lit 0) (.var 4)) (.ilt (.var 4) (.lit 6))))
         (.fin { lo := 6, lob := 2, bv := [(6, (.lit true))] })
         (.ob (.inr .i64 (.add (.lit 79) (.var 4))) <|
          .fin { lo := 6, lob := 2, bv := [(6, (.lit true))] }))
        (.fin { lo := 6, lob := 2, bv := [(6, (.lit true))] }))))
     (.br (.or (.ilt (.var 2) (.lit 0)) (.ile (.lit 9) (.var 2)))
      (.br (.ieq (.mod (.wrap .u64 (.var 3)) (.lit 4)) (.lit 0))
       (.br (.or (.ilt (.var 5) (.lit 0)) (.ile (.lit 24) (.var 5)))
        (.fin { lo := 6, lob := 2, bv := [(6, (.lit true))] })
        (.ob (.inr .i64 (.var 5)) <|
         .fin { lo := 6, lob := 2, bv := [(6, (.lit true))] }))
       (.br (.ieq (.mod (.wrap .u64 (.var 3)) (.lit 4)) (.lit 1))
        (.br (.not (.and (.ile (.lit 0) (.var 4)) (.ilt (.var 4) (.lit 6))))
         (.fin { lo := 6, lob := 2, bv := [(6, (.lit true))] })
         (.br (.or (.ilt (.var 5) (.lit 0)) (.ile (.lit 9) (.var 5)))
          (.fin { lo := 6, lob := 2, bv := [(6, (.lit true))] })
          (.ob (.inr .i64 (.mul (.var 4) (.lit 9))) <|
           .ob (.inr .i64 (.add (.lit 25) (.mul (.var 4) (.lit 9)))) <|
           .ob (.inr .i64 (.add (.add (.lit 25) (.mul (.var 4) (.lit 9))) (.var 5))) <|
           .fin { lo := 6, lob := 2, bv := [(6, (.lit true))] })))
        (.br (.ieq (.mod (.wrap .u64 (.var 3)) (.lit 4)) (.lit 2))
         (.br (.not (.and (.ile (.lit 0) (.var 4)) (.ilt (.var 4) (.lit 6))))
          (.fin { lo := 6, lob := 2, bv := [(6, (.lit true))] })
          (.ob (.inr .i64 (.add (.lit 79) (.var 4))) <|
           .fin { lo := 6, lob := 2, bv := [(6, (.lit true))] }))
         (.fin { lo := 6, lob := 2, bv := [(6, (.lit true))] }))))
      (.ob (.inr .i64 (.mul (.var 1) (.lit 9))) <|
       .ob (.inr .i64 (.add (.lit 25) (.mul (.var 1) (.lit 9)))) <|
       .ob (.inr .i64 (.add (.add (.lit 25) (.mul (.var 1) (.lit 9))) (.var 2))) <|
       .br (.ieq (.mod (.wrap .u64 (.var 3)) (.lit 4)) (.lit 0))
       (.br (.or (.ilt (.var 5) (.lit 0)) (.ile (.lit 24) (.var 5)))
        (.fin { lo := 6, lob := 2, bv := [(6, (.lit true))] })
        (.ob (.inr .i64 (.var 5)) <|
         .fin { lo := 6, lob := 2, bv := [(6, (.not (.ieq (.add (.add (.lit 25) (.mul (.var 1) (.lit 9))) (.var 2)) (.var 5))))] }))
       (.br (.ieq (.mod (.wrap .u64 (.var 3)) (.lit 4)) (.lit 1))
        (.br (.not (.and (.ile (.lit 0) (.var 4)) (.ilt (.var 4) (.lit 6))))
         (.fin { lo := 6, lob := 2, bv := [(6, (.lit true))] })
         (.br (.or (.ilt (.var 5) (.lit 0)) (.ile (.lit 9) (.var 5)))
          (.fin { lo := 6, lob := 2, bv := [(6, (.lit true))] })
          (.ob (.inr .i64 (.mul (.var 4) (.lit 9))) <|
           .ob (.inr .i64 (.add (.lit 25) (.mul (.var 4) (.lit 9)))) <|
           .ob (.inr .i64 (.add (.add (.lit 25) (.mul (.var 4) (.lit 9))) (.var 5))) <|
           .fin { lo := 6, lob := 2, bv := [(6, (.beq (.ieq (.add (.add (.lit 25) (.mul (.var 1) (.lit 9))) (.var 2)) (.add (.add (.lit 25) (.mul (.var 4) (.lit 9))) (.var 5))) (.and (.ieq (.var 1) (.var 4)) (.ieq (.var 2) (.var 5)))))] })))
        (.br (.ieq (.mod (.wrap .u64 (.var 3)) (.lit 4)) (.lit 2))
         (.br (.not (.and (.ile (.lit 0) (.var 4)) (.ilt (.var 4) (.lit 6))))
          (.fin { lo := 6, lob := 2, bv := [(6, (.lit true))] })
          (.ob (.inr .i64 (.add (.lit 79) (.var 4))) <|
           .fin { lo := 6, lob := 2, bv := [(6, (.not (.ieq (.add (.add (.lit 25) (.mul (.var 1) (.lit 9))) (.var 2)) (.add (.lit 79) (.var 4)))))] }))
         (.fin { lo := 6, lob := 2, bv := [(6, (.not (.ieq (.add (.add (.lit 25) (.mul (.var 1) (.lit 9))) (.var 2)) (.lit 24))))] }))))))
    (.br (.ieq (.mod (.wrap .u64 (.var 0)) (.lit 4)) (.lit 2))
     (.br (.not (.and (.ile (.lit 0) (.var 1)) (.ilt (.var 1) (.lit 6))))
      (.br (.ieq (.mod (.wrap .u64 (.var 3)) (.lit 4)) (.lit 0))
       (.br (.or (.ilt (.var 5) (.lit 0)) (.ile (.lit 24) (.var 5)))
        (.fin { lo := 6, lob := 2, bv := [(6, (.lit true))] })
        (.ob (.inr .i64 (.var 5)) <|
         .fin { lo := 6, lob := 2, bv := [(6, (.lit true))] }))
       (.br (.ieq (.mod (.wrap .u64 (.var 3)) (.lit 4)) (.lit 1))
        (.br (.not (.and (.ile (.lit 0) (.var 4)) (.ilt (.var 4) (.lit 6))))
         (.fin { lo := 6, lob := 2, bv := [(6, (.lit true))] })
         (.br (.or (.ilt (.var 5) (.lit 0)) (.ile (.lit 9) (.var 5)))
          (.fin { lo := 6, lob := 2, bv := [(6, (.lit true))] })
          (.ob (.inr .i64 (.mul (.var 4) (.lit 9))) <|
           .ob (.inr .i64 (.add (.lit 25) (.mul (.var 4) (.lit 9)))) <|
           .ob (.inr .i64 (.add (.add (.lit 25) (.mul (.var 4) (.lit 9))) (.var 5))) <|
           .fin { lo := 6, lob := 2, bv := [(6, (.lit true))] })))
        (.br (.ieq (.mod (.wrap .u64 (.var 3)) (.lit 4)) (.lit 2))
         (.br (.not (.and (.ile (.lit 0) (.var 4)) (.ilt (.var 4) (.lit 6))))
          (.fin { lo := 6, lob := 2, bv := [(6, (.lit true))] })
          (.ob (.inr .i64 (.add (.lit 79) (.var 4))) <|
           .fin { lo := 6, lob := 2, bv := [(6, (.lit true))] }))
         (.fin { lo := 6, lob := 2, bv := [(6, (.lit true))] }))))
      (.ob (.inr .i64 (.add (.lit 79) (.var 1))) <|
       .br (.ieq (.mod (.wrap .u64 (.var 3)) (.lit 4)) (.lit 0))
       (.br (.or (.ilt (.var 5) (.lit 0)) (.ile (.lit 24) (.var 5)))
        (.fin { lo := 6, lob := 2, bv := [(6, (.lit true))] })
        (.ob (.inr .i64 (.var 5)) <|
         .fin { lo := 6, lob := 2, bv := [(6, (.not (.ieq (.add (.lit 79) (.var 1)) (.var 5))))] }))
       (.br (.ieq (.mod (.wrap .u64 (.var 3)) (.lit 4)) (.lit 1))
        (.br (.not (.and (.ile (.lit 0) (.var 4)) (.ilt (.var 4) (.lit 6))))
         (.fin { lo := 6, lob := 2, bv := [(6, (.lit true))] })
         (.br (.or (.ilt (.var 5) (.lit 0)) (.ile (.lit 9) (.var 5)))
          (.fin { lo := 6, lob := 2, bv := [(6, (.lit true))] })
          (.ob (.inr .i64 (.mul (.var 4) (.lit 9))) <|
           .ob (.inr .i64 (.add (.lit 25) (.mul (.var 4) (.lit 9)))) <|
           .ob (.inr .i64 (.add (.add (.lit 25) (.mul (.var 4) (.lit 9))) (.var 5))) <|
           .fin { lo := 6, lob := 2, bv := [(6, (.not (.ieq (.add (.lit 79) (.var 1)) (.add (.add (.lit 25) (.mul (.var 4) (.lit 9))) (.var 5)))))] })))
        (.br (.ieq (.mod (.wrap .u64 (.var 3)) (.lit 4)) (.lit 2))
         (.br (.not (.and (.ile (.lit 0) (.var 4)) (.ilt (.var 4) (.lit 6))))
          (.fin { lo := 6, lob := 2, bv := [(6, (.lit true))] })
          (.ob (.inr .i64 (.add (.lit 79) (.var 4))) <|
           .fin { lo := 6, lob := 2, bv := [(6, (.beq (.ieq (.add (.lit 79) (.var 1)) (.add (.lit 79) (.var 4))) (.ieq (.var 1) (.var 4))))] }))
         (.fin { lo := 6, lob := 2, bv := [(6, (.not (.ieq (.add (.lit 79) (.var 1)) (.lit 24))))] })))))
     (.br (.ieq (.mod (.wrap .u64 (.var 3)) (.lit 4)) (.lit 0))
      (.br (.or (.ilt (.var 5) (.lit 0)) (.ile (.lit 24) (.var 5)))
       (.fin { lo := 6, lob := 2, bv := [(6, (.lit true))] })
       (.ob (.inr .i64 (.var 5)) <|
        .fin { lo := 6, lob := 2, bv := [(6, (.not (.ieq (.lit 24) (.var 5))))] }))
      (.br (.ieq (.mod (.wrap .u64 (.var 3)) (.lit 4)) (.lit 1))
       (.br (.not (.and (.ile (.lit 0) (.var 4)) (.ilt (.var 4) (.lit 6))))
        (.fin { lo := 6, lob := 2, bv := [(6, (.lit true))] })
        (.br (.or (.ilt (.var 5) (.lit 0)) (.ile (.lit 9) (.var 5)))
         (.fin { lo := 6, lob := 2, bv := [(6, (.lit true))] })
         (.ob (.inr .i64 (.mul (.var 4) (.lit 9))) <|
          .ob (.inr .i64 (.add (.lit 25) (.mul (.var 4) (.lit 9)))) <|
          .ob (.inr .i64 (.add (.add (.lit 25) (.mul (.var 4) (.lit 9))) (.var 5))) <|
          .fin { lo := 6, lob := 2, bv := [(6, (.not (.ieq (.lit 24) (.add (.add (.lit 25) (.mul (.var 4) (.lit 9))) (.var 5)))))] })))
       (.br (.ieq (.mod (.wrap .u64 (.var 3)) (.lit 4)) (.lit 2))
        (.br (.not (.and (.ile (.lit 0) (.var 4)) (.ilt (.var 4) (.lit 6))))
         (.fin { lo := 6, lob := 2, bv := [(6, (.lit true))] })
         (.ob (.inr .i64 (.add (.lit 79) (.var 4))) <|
          .fin { lo := 6, lob := 2, bv := [(6, (.not (.ieq (.lit 24) (.add (.lit 79) (.var 4)))))] }))
        (.fin { lo := 6, lob := 2, bv := [(6, (.lit true))] }))))))
theorem apart_run : exec tab apartE 4000 [] (cfg0 3 (lawConG 27 ss1 3 [shA3, shA3]).nv [] (sentGl ss1 0) (lawConG 27 ss1 3 [shA3, shA3]).hp (lawConG 27 ss1 3 [shA3, shA3]).args) = apartOut := by kernel_rfl
set_option maxHeartbeats 0 in
theorem apart_sat (ρ : Env) (hpre : lawPre [shA3, shA3] ρ.num) : Sat (lawPostG ss1 [shA3, shA3]) lawSem1 [] ρ apartOut := by
  unfold apartOut
  refine Sat.call rfl trivial fun e0 _ => ?_
  have hq : lawPre [shA3, shA3] (ρ.join (lawConG 27 ss1 3 [shA3, shA3]).nv e0).num := hpre
  generalize hQ : ρ.join (lawConG 27 ss1 3 [shA3, shA3]).nv e0 = q at *
  replace hQ : ρ.join 6 e0 = q := hQ
  rw [hQ]
  clear hpre hQ
  simp only [lawPre, List.flatMap, List.map, List.flatten, shA3, shI, shAddr, shSpan, List.append, List.cons_append, List.nil_append, List.append_nil, preC, Env.num, D.le, D.lef, D.lt, D.ltf, D.eq, D.eqf, D.not, D.notf, D.and, D.andf, D.or, D.orf, D.inr, D.var, D.lit, D.cellB, D.beq, D.beqf, D.litI, D.varI, D.add, D.sub, D.mul, D.min, D.max, D.cellI, D.i64min, D.i64max] at hq
  repeat' first
    | refine Sat.br (fun _ => ?_) (fun _ => ?_)
    | refine Sat.ob ?_ ?_
    | refine Sat.fin (Eq.trans (b := (Sub.nenv _ _).bv 6) rfl ?_)
    | refine Sat.call rfl trivial (fun _ _ => ?_)
  all_goals
    simp [Sub.nenv, assoc, D.le, D.lef, D.lt, D.ltf, D.eq, D.eqf, D.not, D.notf, D.and, D.andf, D.or, D.orf, D.inr, D.var, D.lit, D.litI, D.varI, D.add, D.sub, D.mul, D.mod, D.div, D.wrap, D.i64min, D.i64max, D.ite, beqI, Env.join, IntKind.wrap_u64, tm, td] at *
    try omega
theorem apart_con : ConOK Tryd.prog (lawConG 27 ss1 3 [shA3, shA3]) (lawPre [shA3, shA3]) (lawPostG ss1 [shA3, shA3]) :=
  con_ok tabOK (E := apartE) (cs := lawSem1) rfl lawSem1_ok schedOK rfl apart_run (by kernel_rfl) (fun ρ _ p hp => by cases hp) apart_sat
end Go.Proofs.YtlfhjmfelbomaaaDoor
