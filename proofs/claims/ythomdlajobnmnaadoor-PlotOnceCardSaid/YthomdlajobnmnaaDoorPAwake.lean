/- plot's 'awake', what it calls -/
import Derived.Test.YthomdlajobnmnaaDoorPNew
import Derived.Test.YthomdlajobnmnaaDoorIs
import Derived.Test.YthomdlajobnmnaaDoorFind
set_option linter.unusedSimpArgs false
set_option linter.unusedVariables false
namespace Go.Proofs.YthomdlajobnmnaaDoor
open Go.Rex
def yesPre (_ : Env) : Prop := True
theorem is_con : ConOK Tryd.prog isCon yesPre yesPre := by
  refine con_pure ⟨_, Tryd.func35, by kernel_rfl, by kernel_rfl⟩ rfl (fun ρ ν w hhp _ _ => ?_) fun _ _ => trivial
  obtain ⟨-, cs, hcs, hrd⟩ := hhp.rd 0 _ rfl rfl rfl
  have h1 := hrd 1 _ (hcs.ex 1 _ rfl rfl)
  have e0 : SA.den ρ ν { blk := 0 } = ν 0 := by simp [SA.den, SA.off, IE.den, Addr.add_zero]
  have e1 : SA.den ρ ν { blk := 1 } = ν 1 := by simp [SA.den, SA.off, IE.den, Addr.add_zero]
  have h2 : w.cell? ⟨(ν 0).block, (ν 0).off + 1, none⟩ = some (.iface 177 (.pointer (some (ν 1)))) := by
    have h1 : w.cell? ((ν 0).add 1) = some (.iface 177 (.pointer (some (SA.den ρ ν { blk := 1 })))) := h1
    rw [e1] at h1
    exact h1
  have hc := is_wrap_same (ν 0) (ν 1) w h2
  show Calls Tryd.prog 35 #[.iface 119 (.pointer (some (SA.den ρ ν { blk := 0 }))), .iface 177 (.pointer (some (SA.den ρ ν { blk := 1 })))] w _
  rw [e0, e1]
  exact hc
theorem is_con0 : ConOK Tryd.prog isCon0 yesPre yesPre := by
  refine con_pure ⟨_, Tryd.func35, by kernel_rfl, by kernel_rfl⟩ rfl (fun ρ ν w hhp _ _ => ?_) fun _ _ => trivial
  have e0 : SA.den ρ ν { blk := 0 } = ν 0 := by simp [SA.den, SA.off, IE.den, Addr.add_zero]
  have hc := is_same (ν 0) w
  show Calls Tryd.prog 35 #[.iface 177 (.pointer (some (SA.den ρ ν { blk := 0 }))), .iface 177 (.pointer (some (SA.den ρ ν { blk := 0 })))] w _
  rw [e0]
  exact hc
theorem place_con : ConOK Tryd.prog placeCon yesPre yesPre := by
  refine con_ext ⟨_, Tryd.func34, by kernel_rfl, by kernel_rfl⟩ rfl (fun ρ ν w hhp hgl _ => ?_) fun _ _ => trivial
  obtain ⟨-, cs, hcs, hrd⟩ := hhp.rd 0 _ rfl rfl rfl
  obtain ⟨-, cs', hcs', hrd'⟩ := hhp.rd 1 _ rfl rfl rfl
  have h1 := hrd 0 _ (hcs.ex 0 _ rfl rfl)
  have h2 := hrd' 0 _ (hcs'.ex 0 _ rfl rfl)
  have hν : ν 0 = ⟨6, 0, none⟩ := hgl.at_ 6 0 rfl
  have e1 : SA.den ρ ν { blk := 1 } = ν 1 := by simp [SA.den, SA.off, IE.den, Addr.add_zero]
  rw [hν] at h1
  have h2' : w.cell? (ν 1) = some (.int .i64 (ρ.iv 0)) := by
    have := h2
    rwa [show (ν 1).add 0 = ν 1 from Addr.add_zero _] at this
  have hc := place_hit (ν 1) (ρ.iv 0) w h1 h2'
  show Calls Tryd.prog 34 #[.iface 119 (.pointer (some (SA.den ρ ν { blk := 1 })))] w _
  rw [e1]
  exact hc
noncomputable def awakeE : Ex := { sched := sched, loops := [], cons := [isCon0, isCon, placeCon], fin := awakeP }
def awakeOut : Out :=
  .alt
   (.new 1 [.be (.and (.ile (.lit 1) (.var 1)) (.ile (.var 1) (.lit 9223372036854775807)))] <|
    .new 2 [.be (.and (.ile (.lit 2) (.var 2)) (.ile (.var 2) (.lit 9223372036854775807)))] <|
    .ob (.ile (.lit 1) (.var 2)) <|
    .new 3 [.be (.and (.ile (.lit 2) (.var 3)) (.ile (.var 3) (.lit 9223372036854775807)))] <|
    .ob (.ile (.lit 1) (.var 3)) <|
    .call 2 { lo := 0, lob := 0, iv := [(0, (.lit 4))], bk := [(0, { blk := 10 }), (1, { blk := 44 })] } 4 <|
    .call 0 { lo := 0, lob := 0, bk := [(0, { blk := 1 })] } 4 <|
    .call 1 { lo := 0, lob := 0, iv := [(0, (.lit 4))], bk := [(1, { blk := 7 }), (0, { blk := 44 })] } 4 <|
    .fin { lo := 1, lob := 11 })
   (.new 1 [.be (.and (.ile (.lit 1) (.var 1)) (.ile (.var 1) (.lit 9223372036854775807)))] <|
    .new 2 [.be (.and (.ile (.lit 2) (.var 2)) (.ile (.var 2) (.lit 9223372036854775807)))] <|
    .ob (.ile (.lit 1) (.var 2)) <|
    .new 3 [.be (.and (.ile (.lit 2) (.var 3)) (.ile (.var 3) (.lit 9223372036854775807)))] <|
    .ob (.ile (.lit 1) (.var 3)) <|
    .call 2 { lo := 0, lob := 0, iv := [(0, (.lit 4))], bk := [(0, { blk := 10 }), (1, { blk := 44 })] } 4 <|
    .call 0 { lo := 0, lob := 0, bk := [(0, { blk := 1 })] } 4 <|
    .call 1 { lo := 0, lob := 0, iv := [(0, (.lit 4))], bk := [(1, { blk := 7 }), (0, { blk := 44 })] } 4 <|
    .fin { lo := 1, lob := 11 })
theorem awake_run : exec tab awakeE 8000 [] (cfg0 12 1 [] (sentGl ssP 0 ++ [(6, 10)]) awakeP.hp awakeP.args) = awakeOut := by kernel_rfl
def pSem : CSem := [(isCon0, yesPre, yesPre), (isCon, yesPre, yesPre), (placeCon, yesPre, yesPre)]
theorem pSem_ok : ∀ k pre post, (k, pre, post) ∈ pSem → conWf k = true ∧ ConOK Tryd.prog k pre post := by
  intro k pre post h
  simp only [pSem, List.mem_cons, List.not_mem_nil, or_false, Prod.mk.injEq] at h
  rcases h with ⟨rfl, rfl, rfl⟩ | ⟨rfl, rfl, rfl⟩ | ⟨rfl, rfl, rfl⟩
  · exact ⟨by kernel_rfl, is_con0⟩
  · exact ⟨by kernel_rfl, is_con⟩
  · exact ⟨by kernel_rfl, place_con⟩
theorem awake_con : ConOK Tryd.prog awakeP yesPre yesPre :=
  con_ok tabOK (E := awakeE) (cs := pSem) rfl pSem_ok schedOK rfl awake_run (by kernel_rfl) (fun ρ _ p hp => by cases hp) fun ρ _ => by
      unfold awakeOut
      repeat' first
        | refine Sat.alt ?_ ?_
        | refine Sat.newB (fun q => True) (fun _ => trivial) fun q _ hf => ?_
        | (refine Sat.ob ?_ ?_; (simp only [D.le, D.lef, D.lt, D.ltf, D.eq, D.eqf, D.not, D.notf, D.and, D.andf, D.or, D.orf, D.inr, D.var, D.lit, D.cellB, D.beq, D.beqf, D.litI, D.varI, D.add, D.sub, D.mul, D.min, D.max, D.cellI, D.i64min, D.i64max, Int.toNat_zero] at *; omega))
        | refine Sat.callK (c := isCon0) rfl trivial (fun _ => True) (fun _ _ => trivial) fun _ _ => ?_
        | refine Sat.callK (c := isCon) rfl trivial (fun _ => True) (fun _ _ => trivial) fun _ _ => ?_
        | refine Sat.callK (c := placeCon) rfl trivial (fun _ => True) (fun _ _ => trivial) fun _ _ => ?_
        | exact Sat.fin trivial
end Go.Proofs.YthomdlajobnmnaaDoor
