/- 'BoardThreads': each thread has ten cells of its own -/
import Derived.Test.YtlfhjmfelbomaaaDoorBArith
set_option linter.unusedSimpArgs false
set_option linter.unusedVariables false
namespace Go.Proofs.YtlfhjmfelbomaaaDoor
open Go.Rex
def loop6 : LSpec := { f := 6, p := [1, 1, 1, 1, 0, 1, 0], hav := [(4, .au), (5, .au)], kill := [16, 17, 18, 22, 23, 24, 21, 25, 26, 27, 28, 6, 7, 8, 9, 29, 30, 2, 31, 32, 33, 34, 35, 36, 37, 38, 39, 40, 41, 42, 43, 44, 45, 46, 47, 48, 49, 50, 51, 52, 53, 19, 20] }
noncomputable def threadsE : Ex := { sched := sched, loops := [loop6], cons := [isCon, awakeCon1], fin := lawConG 27 ss2 6 [shI] }
def threadsOut : Out :=
  .call 1 { lo := 0, lob := 0, bk := [(1, { blk := 1 }), (0, { blk := 0 })] } 1 <|
   .ob (.inr .i64 (.mod (.wrap .u64 (.var 0)) (.lit 6))) <|
   .loop 1 { lo := 1, lob := 4, iv := [(2, (.lit 0)), (1, (.lit 0))] } <|
   .br (.ilt (.var 2) (.lit 85))
   (.br (.or (.ilt (.var 2) (.lit 0)) (.ile (.lit 85) (.var 2)))
    (.fin { lo := 1, lob := 4, bv := [(1, (.lit false))] })
    (.br (.ilt (.var 2) (.lit 24))
     (.ob (.inr .i64 (.var 2)) <|
      .ob (.inr .i64 (.add (.var 2) (.lit 1))) <|
      .back 0 { lo := 1, lob := 4, iv := [(2, (.add (.var 2) (.lit 1))), (1, (.var 1))] })
     (.br (.ilt (.var 2) (.lit 25))
      (.ob (.inr .i64 (.add (.var 2) (.lit 1))) <|
       .back 0 { lo := 1, lob := 4, iv := [(2, (.add (.var 2) (.lit 1))), (1, (.var 1))] })
      (.br (.ilt (.var 2) (.lit 79))
       (.ob (.inr .i64 (.sub (.var 2) (.lit 25))) <|
        .ob (.inr .i64 (.div (.sub (.var 2) (.lit 25)) (.lit 9))) <|
        .br (.ieq (.div (.sub (.var 2) (.lit 25)) (.lit 9)) (.mod (.wrap .u64 (.var 0)) (.lit 6)))
        (.ob (.inr .i64 (.add (.var 1) (.lit 1))) <|
         .ob (.inr .i64 (.add (.var 2) (.lit 1))) <|
         .back 0 { lo := 1, lob := 4, iv := [(2, (.add (.var 2) (.lit 1))), (1, (.add (.var 1) (.lit 1)))] })
        (.ob (.inr .i64 (.add (.var 2) (.lit 1))) <|
         .back 0 { lo := 1, lob := 4, iv := [(2, (.add (.var 2) (.lit 1))), (1, (.var 1))] }))
       (.ob (.inr .i64 (.sub (.var 2) (.lit 79))) <|
        .br (.ieq (.sub (.var 2) (.lit 79)) (.mod (.wrap .u64 (.var 0)) (.lit 6)))
        (.ob (.inr .i64 (.add (.var 1) (.lit 1))) <|
         .ob (.inr .i64 (.add (.var 2) (.lit 1))) <|
         .back 0 { lo := 1, lob := 4, iv := [(2, (.add (.var 2) (.lit 1))), (1, (.add (.var 1) (.lit 1)))] })
        (.ob (.inr .i64 (.add (.var 2) (.lit 1))) <|
         .back 0 { lo := 1, lob := 4, iv := [(2, (.add (.var 2) (.lit 1))), (1, (.var 1))] }))))))
   (.fin { lo := 1, lob := 4, bv := [(1, (.ieq (.var 1) (.lit 10)))] })
theorem threads_run : exec tab threadsE 4000 [] (cfg0 6 (lawConG 27 ss2 6 [shI]).nv [] (sentGl ss2 0) (lawConG 27 ss2 6 [shI]).hp (lawConG 27 ss2 6 [shI]).args) = threadsOut := by kernel_rfl
def threadsInv (r : Env) : Prop := (0 ≤ r.iv 2 ∧ r.iv 2 ≤ 85) ∧ r.iv 1 = max 0 (min 9 (r.iv 2 - 25 - 9 * (r.iv 0 % 18446744073709551616 % 6))) + if 79 + r.iv 0 % 18446744073709551616 % 6 < r.iv 2 then 1 else 0
set_option maxHeartbeats 0 in
theorem threads_sat (ρ : Env) (hpre : lawPre [shI] ρ.num) : Sat (lawPostG ss2 [shI]) lawSem1 [] ρ threadsOut := by
  unfold threadsOut
  refine Sat.call rfl trivial fun e0 _ => ?_
  generalize ρ.join 1 e0 = q at *
  refine Sat.ob ?_ ?_
  · simp [D.inr, D.mod, D.wrap, D.varI, D.litI, D.i64min, D.i64max, IntKind.wrap_u64, tm]
    omega
  refine Sat.loop threadsInv (fun r => (85 - r.iv 2).toNat) ?_ fun e1 hI => ?_
  · simp [threadsInv, Sub.nenv, assoc, D.litI]
    omega
  replace hI : threadsInv (q.join 1 e1) := hI
  rw [show (85 - (q.join 1 e1).num.iv 2).toNat = (85 - (q.join 1 e1).iv 2).toNat from rfl]
  generalize q.join 1 e1 = r at *
  unfold threadsInv at hI
  repeat' first
    | refine Sat.br (fun _ => ?_) (fun _ => ?_)
    | refine Sat.ob ?_ ?_
    | refine Sat.fin (Eq.trans (b := (Sub.nenv _ _).bv 1) rfl ?_)
    | refine Sat.back rfl ?_
  all_goals
    simp [threadsInv, Sub.nenv, assoc, D.le, D.lef, D.lt, D.ltf, D.eq, D.eqf, D.not, D.notf, D.and, D.andf, D.or, D.orf, D.inr, D.var, D.lit, D.litI, D.varI, D.add, D.sub, D.mul, D.mod, D.div, D.wrap, D.i64min, D.i64max, D.ite, beqI, Env.join, IntKind.wrap_u64, tm, td] at *
    try omega
theorem threads_con : ConOK Tryd.prog (lawConG 27 ss2 6 [shI]) (lawPre [shI]) (lawPostG ss2 [shI]) :=
  con_ok tabOK (E := threadsE) (cs := lawSem1) rfl lawSem1_ok schedOK rfl threads_run (by kernel_rfl) (fun ρ _ p hp => by cases hp) threads_sat
end Go.Proofs.YtlfhjmfelbomaaaDoor
