/- 'BoardHears': what is said is heard as it was -/
import Derived.Test.YtlfhjmfelbomaaaDoorSpec
import Derived.Test.YtlfhjmfelbomaaaDoorIs
set_option linter.unusedSimpArgs false
set_option linter.unusedVariables false
namespace Go.Proofs.YtlfhjmfelbomaaaDoor
open Go.Rex
def yesPre (_ : Env) : Prop := True
theorem is_con : ConOK Tryd.prog isCon yesPre yesPre := by
  refine con_pure ⟨_, Tryd.func20, by kernel_rfl, by kernel_rfl⟩ rfl (fun ρ ν w hhp _ _ => ?_) fun _ _ => trivial
  obtain ⟨-, cs, hcs, hrd⟩ := hhp.rd 0 _ rfl rfl rfl
  have h1 := hrd 1 _ (hcs.ex 1 _ rfl rfl)
  have e0 : SA.den ρ ν { blk := 0 } = ν 0 := by simp [SA.den, SA.off, IE.den, Addr.add_zero]
  have e1 : SA.den ρ ν { blk := 1 } = ν 1 := by simp [SA.den, SA.off, IE.den, Addr.add_zero]
  have h2 : w.cell? ⟨(ν 0).block, (ν 0).off + 1, none⟩ = some (.iface 75 (.pointer (some (ν 1)))) := by
    have h1 : w.cell? ((ν 0).add 1) = some (.iface 75 (.pointer (some (SA.den ρ ν { blk := 1 })))) := h1
    rw [e1] at h1
    exact h1
  have hc := is_wrap_same (ν 0) (ν 1) w h2
  show Calls Tryd.prog 20 #[.iface 61 (.pointer (some (SA.den ρ ν { blk := 0 }))), .iface 75 (.pointer (some (SA.den ρ ν { blk := 1 })))] w _
  rw [e0, e1]
  exact hc
noncomputable def awakeE : Ex := { sched := sched, loops := [], cons := [isCon], fin := awakeCon1 }
def awakeOut : Out :=
  .ob (.inr .i64 (.mul (.lit 1) (.lit 9))) <|
   .ob (.inr .i64 (.add (.lit 25) (.mul (.lit 1) (.lit 9)))) <|
   .br (.ieq (.add (.lit 25) (.mul (.lit 1) (.lit 9))) (.lit 34))
   (.call 0 { lo := 0, lob := 0, iv := [(0, (.lit 4))], bk := [(1, { blk := 1 }), (0, { blk := 9 })] } 0 <|
    .fin { lo := 0, lob := 2 })
   (.bad 45)
theorem awake_run : exec tab awakeE 4000 [] (cfg0 8 0 [] (sentGl ss1 0) awakeCon1.hp awakeCon1.args) = awakeOut := by kernel_rfl
theorem awake_con : ConOK Tryd.prog awakeCon1 yesPre yesPre :=
  con_ok tabOK (E := awakeE) (cs := [(isCon, yesPre, yesPre)]) rfl (fun k pre post h => by
    cases h with
    | head => exact ⟨by kernel_rfl, is_con⟩
    | tail _ h => cases h) schedOK rfl awake_run (by kernel_rfl) (fun ρ _ p hp => by cases hp) fun ρ _ => by
      unfold awakeOut
      refine Sat.ob (by simp only [D.le, D.lef, D.lt, D.ltf, D.eq, D.eqf, D.not, D.notf, D.and, D.andf, D.or, D.orf, D.inr, D.var, D.lit, D.cellB, D.beq, D.beqf, D.litI, D.varI, D.add, D.sub, D.mul, D.min, D.max, D.cellI, D.i64min, D.i64max]; omega) (Sat.ob (by simp only [D.le, D.lef, D.lt, D.ltf, D.eq, D.eqf, D.not, D.notf, D.and, D.andf, D.or, D.orf, D.inr, D.var, D.lit, D.cellB, D.beq, D.beqf, D.litI, D.varI, D.add, D.sub, D.mul, D.min, D.max, D.cellI, D.i64min, D.i64max]; omega) (Sat.br (fun _ => Sat.call rfl trivial fun _ _ => Sat.fin trivial) fun h => ?_))
      simp only [D.le, D.lef, D.lt, D.ltf, D.eq, D.eqf, D.not, D.notf, D.and, D.andf, D.or, D.orf, D.inr, D.var, D.lit, D.cellB, D.beq, D.beqf, D.litI, D.varI, D.add, D.sub, D.mul, D.min, D.max, D.cellI, D.i64min, D.i64max] at h
      exact (h rfl).elim
noncomputable def hearsE : Ex := { sched := sched, loops := [], cons := [isCon, awakeCon1], fin := lawConG 27 ss1 7 [shSpan, shSpan] }
def hearsOut : Out :=
  .call 1 { lo := 0, lob := 0, bk := [(1, { blk := 1 }), (0, { blk := 0 })] } 6 <|
   .br (.not (.var 0))
   (.br (.not (.and (.not (.var 0)) (.and (.ieq (.var 1) (.lit 0)) (.ieq (.var 2) (.lit 0)))))
    (.br (.not (.var 3))
     (.br (.not (.and (.not (.var 3)) (.and (.ieq (.var 4) (.lit 0)) (.ieq (.var 5) (.lit 0)))))
      (.fin { lo := 6, lob := 2, bv := [(6, (.lit true))] })
      (.fin { lo := 6, lob := 2, bv := [(6, (.lit true))] }))
     (.br (.or (.or (.or (.ilt (.var 4) (.lit 0)) (.ilt (.lit 1099511627776) (.var 4))) (.ilt (.var 5) (.var 4))) (.ilt (.lit 1099511627776) (.var 5)))
      (.fin { lo := 6, lob := 2, bv := [(6, (.lit true))] })
      (.fin { lo := 6, lob := 2, bv := [(6, (.lit true))] })))
    (.br (.not (.var 3))
     (.br (.not (.and (.not (.var 3)) (.and (.ieq (.var 4) (.lit 0)) (.ieq (.var 5) (.lit 0)))))
      (.fin { lo := 6, lob := 2, bv := [(6, (.lit true))] })
      (.fin { lo := 6, lob := 2, bv := [(6, (.and (.beq (.var 0) (.var 3)) (.and (.ieq (.var 1) (.var 4)) (.ieq (.var 2) (.var 5)))))] }))
     (.br (.or (.or (.or (.ilt (.var 4) (.lit 0)) (.ilt (.lit 1099511627776) (.var 4))) (.ilt (.var 5) (.var 4))) (.ilt (.lit 1099511627776) (.var 5)))
      (.fin { lo := 6, lob := 2, bv := [(6, (.lit true))] })
      (.fin { lo := 6, lob := 2, bv := [(6, (.not (.and (.beq (.var 0) (.var 3)) (.and (.ieq (.var 1) (.var 4)) (.ieq (.var 2) (.var 5))))))] }))))
   (.br (.or (.or (.or (.ilt (.var 1) (.lit 0)) (.ilt (.lit 1099511627776) (.var 1))) (.ilt (.var 2) (.var 1))) (.ilt (.lit 1099511627776) (.var 2)))
    (.br (.not (.var 3))
     (.br (.not (.and (.not (.var 3)) (.and (.ieq (.var 4) (.lit 0)) (.ieq (.var 5) (.lit 0)))))
      (.fin { lo := 6, lob := 2, bv := [(6, (.lit true))] })
      (.fin { lo := 6, lob := 2, bv := [(6, (.lit true))] }))
     (.br (.or (.or (.or (.ilt (.var 4) (.lit 0)) (.ilt (.lit 1099511627776) (.var 4))) (.ilt (.var 5) (.var 4))) (.ilt (.lit 1099511627776) (.var 5)))
      (.fin { lo := 6, lob := 2, bv := [(6, (.lit true))] })
      (.fin { lo := 6, lob := 2, bv := [(6, (.lit true))] })))
    (.br (.not (.var 3))
     (.br (.not (.and (.not (.var 3)) (.and (.ieq (.var 4) (.lit 0)) (.ieq (.var 5) (.lit 0)))))
      (.fin { lo := 6, lob := 2, bv := [(6, (.lit true))] })
      (.fin { lo := 6, lob := 2, bv := [(6, (.not (.and (.beq (.var 0) (.var 3)) (.and (.ieq (.var 1) (.var 4)) (.ieq (.var 2) (.var 5))))))] }))
     (.br (.or (.or (.or (.ilt (.var 4) (.lit 0)) (.ilt (.lit 1099511627776) (.var 4))) (.ilt (.var 5) (.var 4))) (.ilt (.lit 1099511627776) (.var 5)))
      (.fin { lo := 6, lob := 2, bv := [(6, (.lit true))] })
      (.fin { lo := 6, lob := 2, bv := [(6, (.beq (.and (.ieq (.var 2) (.var 5)) (.ieq (.var 1) (.var 4))) (.and (.beq (.var 0) (.var 3)) (.and (.ieq (.var 1) (.var 4)) (.ieq (.var 2) (.var 5))))))] }))))
theorem hears_run : exec tab hearsE 4000 [] (cfg0 7 6 [] (sentGl ss1 0) (lawConG 27 ss1 7 [shSpan, shSpan]).hp (lawConG 27 ss1 7 [shSpan, shSpan]).args) = hearsOut := by kernel_rfl
def lawSem1 : CSem := [(isCon, yesPre, yesPre), (awakeCon1, yesPre, yesPre)]
theorem hears_sat (ρ : Env) (hpre : lawPre [shSpan, shSpan] ρ.num) : Sat (lawPostG ss1 [shSpan, shSpan]) lawSem1 [] ρ hearsOut := by
  unfold hearsOut
  refine Sat.call rfl trivial fun e0 _ => ?_
  generalize ρ.join 6 e0 = q at *
  clear hpre
  repeat' first
    | refine Sat.br (fun _ => ?_) (fun _ => ?_)
    | refine Sat.fin ?_
  all_goals
    refine Eq.trans (b := (Sub.nenv _ q).bv 6) rfl ?_
    simp only [D.le, D.lef, D.lt, D.ltf, D.eq, D.eqf, D.not, D.notf, D.and, D.andf, D.or, D.orf, D.inr, D.var, D.lit, D.cellB, D.beq, D.beqf, D.litI, D.varI, D.add, D.sub, D.mul, D.min, D.max, D.cellI, D.i64min, D.i64max] at *
    simp_all [Sub.nenv, assoc, BE.den, IE.den]
    try exact Bool.and_comm _ _
theorem lawSem1_ok : ∀ k pre post, (k, pre, post) ∈ lawSem1 → conWf k = true ∧ ConOK Tryd.prog k pre post := fun k pre post h => by
  cases h with
  | head => exact ⟨by kernel_rfl, is_con⟩
  | tail _ h => cases h with
    | head => exact ⟨by kernel_rfl, awake_con⟩
    | tail _ h => cases h
theorem hears_con : ConOK Tryd.prog (lawConG 27 ss1 7 [shSpan, shSpan]) (lawPre [shSpan, shSpan]) (lawPostG ss1 [shSpan, shSpan]) :=
  con_ok tabOK (E := hearsE) (cs := lawSem1) rfl lawSem1_ok schedOK rfl hears_run (by kernel_rfl) (fun ρ _ p hp => by cases hp) hears_sat
end Go.Proofs.YtlfhjmfelbomaaaDoor
