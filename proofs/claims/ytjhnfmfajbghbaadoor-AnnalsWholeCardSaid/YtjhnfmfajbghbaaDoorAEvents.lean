/- 'awake', 'Events', 'Alike': what they leave -/
import Derived.Test.YtjhnfmfajbghbaaDoorSpec
import Derived.Test.YtjhnfmfajbghbaaDoorIs
import Derived.Test.YtjhnfmfajbghbaaDoorAPlain
set_option linter.unusedSimpArgs false
set_option linter.unusedVariables false
namespace Go.Proofs.YtjhnfmfajbghbaaDoor
open Go.Rex
def yesPre (_ : Env) : Prop := True
theorem is_con : ConOK Tryd.prog isCon yesPre yesPre := by
  refine con_pure ⟨_, Tryd.func21, by kernel_rfl, by kernel_rfl⟩ rfl (fun ρ ν w hhp _ _ => ?_) fun _ _ => trivial
  obtain ⟨-, cs, hcs, hrd⟩ := hhp.rd 0 _ rfl rfl rfl
  have h1 := hrd 1 _ (hcs.ex 1 _ rfl rfl)
  have e0 : SA.den ρ ν { blk := 0 } = ν 0 := by simp [SA.den, SA.off, IE.den, Addr.add_zero]
  have e1 : SA.den ρ ν { blk := 1 } = ν 1 := by simp [SA.den, SA.off, IE.den, Addr.add_zero]
  have h2 : w.cell? ⟨(ν 0).block, (ν 0).off + 1, none⟩ = some (.iface 85 (.pointer (some (ν 1)))) := by
    have h1 : w.cell? ((ν 0).add 1) = some (.iface 85 (.pointer (some (SA.den ρ ν { blk := 1 })))) := h1
    rw [e1] at h1
    exact h1
  have hc := is_wrap_same (ν 0) (ν 1) w h2
  show Calls Tryd.prog 21 #[.iface 71 (.pointer (some (SA.den ρ ν { blk := 0 }))), .iface 85 (.pointer (some (SA.den ρ ν { blk := 1 })))] w _
  rw [e0, e1]
  exact hc
noncomputable def awakeE : Ex := { sched := sched, loops := [], cons := [isCon], fin := awakeCon }
def awakeOut : Out :=
  .new 1 [.be (.and (.ile (.lit 1) (.var 1)) (.ile (.var 1) (.lit 9223372036854775807)))] <|
   .new 2 [.be (.and (.ile (.lit 2) (.var 2)) (.ile (.var 2) (.lit 9223372036854775807)))] <|
   .new 3 [.be (.and (.ile (.lit 1) (.var 3)) (.ile (.var 3) (.lit 9223372036854775807)))] <|
   .new 4 [.be (.and (.ile (.lit 1) (.var 4)) (.ile (.var 4) (.lit 9223372036854775807)))] <|
   .new 5 [.be (.and (.ile (.lit 2) (.var 5)) (.ile (.var 5) (.lit 9223372036854775807)))] <|
   .call 0 { lo := 0, lob := 0, iv := [(0, (.lit 0))], bk := [(1, { blk := 1 }), (0, { blk := 17 })] } 6 <|
   .new 6 [.be (.and (.ile (.lit 1) (.var 6)) (.ile (.var 6) (.lit 9223372036854775807)))] <|
   .fin { lo := 1, lob := 2 }
theorem awake_run : exec tab awakeE 8000 [] (cfg0 8 1 [] (sentGl ssS 0) awakeCon.hp awakeCon.args) = awakeOut := by kernel_rfl
theorem awake_con : ConOK Tryd.prog awakeCon yesPre yesPre :=
  con_ok tabOK (E := awakeE) (cs := [(isCon, yesPre, yesPre)]) rfl (fun k pre post h => by
    cases h with
    | head => exact ⟨by kernel_rfl, is_con⟩
    | tail _ h => cases h) schedOK rfl awake_run (by kernel_rfl) (fun ρ _ p hp => by cases hp) fun ρ _ => by
      unfold awakeOut
      repeat' first
        | refine Sat.new fun _ _ => ?_
        | refine Sat.call rfl trivial fun _ _ => ?_
        | exact Sat.fin trivial
noncomputable def alikeE : Ex := { sched := sched, loops := [L11], fin := alikeCon }
def alikeOut : Out :=
  .ob (.or (.not (.var 0)) (.ieq (.var 1) (.lit 0))) <|
   .ob (.ile (.lit 0) (.var 1)) <|
   .ob (.or (.not (.var 4)) (.ieq (.var 5) (.lit 0))) <|
   .ob (.ile (.lit 0) (.var 5)) <|
   .br (.not (.ieq (.var 1) (.var 5)))
   (.fin { lo := 8, lob := 2, bv := [(8, (.lit false))] })
   (.loop 8 { lo := 8, lob := 2, iv := [(8, (.lit 0))] } <|
    .br (.ilt (.var 8) (.var 1))
    (.ob (.not (.var 0)) <|
     .ob (.ile (.lit 0) (.var 8)) <|
     .ob (.not (.var 4)) <|
     .ob (.ilt (.var 8) (.var 5)) <|
     .br (.not (.and (.ieq (.cell 3 (.var 8) (.lit 0) 0) (.cell 7 (.var 8) (.lit 0) 0)) (.and (.beq (.cell 3 (.var 8) (.lit 0) 1) (.cell 7 (.var 8) (.lit 0) 1)) (.and (.and (.ieq (.cell 3 (.var 8) (.lit 0) 2) (.cell 7 (.var 8) (.lit 0) 2)) (.and (.ieq (.cell 3 (.var 8) (.lit 0) 3) (.cell 7 (.var 8) (.lit 0) 3)) (.and (.ieq (.cell 3 (.var 8) (.lit 0) 4) (.cell 7 (.var 8) (.lit 0) 4)) (.ieq (.cell 3 (.var 8) (.lit 0) 5) (.cell 7 (.var 8) (.lit 0) 5))))) (.and (.ieq (.cell 3 (.var 8) (.lit 0) 6) (.cell 7 (.var 8) (.lit 0) 6)) (.ieq (.cell 3 (.var 8) (.lit 0) 7) (.cell 7 (.var 8) (.lit 0) 7)))))))
     (.fin { lo := 8, lob := 2, bv := [(8, (.lit false))] })
     (.ob (.inr .i64 (.add (.var 8) (.lit 1))) <|
      .back 0 { lo := 8, lob := 2, iv := [(8, (.add (.var 8) (.lit 1)))] }))
    (.fin { lo := 8, lob := 2, bv := [(8, (.lit true))] }))
theorem alike_run : exec tab alikeE 8000 [] (cfg0 11 8 [] [] alikeCon.hp alikeCon.args) = alikeOut := by kernel_rfl
def alikePre (ρ : Env) : Prop := OkSl ρ 0 ∧ OkSl ρ 4
def alikePost (ρ : Env) : Prop := ρ.bv 8 = true ↔ recs mkEv ρ 0 = recs mkEv ρ 4
def alikeInv (ρ : Env) : Prop := (0 ≤ ρ.iv 8 ∧ ρ.iv 8 ≤ ρ.iv 1) ∧ ∀ i : Nat, (i : Int) < ρ.iv 8 → recAt mkEv ρ 3 i = recAt mkEv ρ 7 i
theorem alike_sat (ρ : Env) (hpre : alikePre ρ.num) : Sat alikePost [] [] ρ alikeOut := by
  replace hpre : alikePre ρ := hpre
  unfold alikeOut
  refine Sat.ob (nilOb hpre.1) (Sat.ob (decide_eq_true hpre.1.2.1) (Sat.ob (nilOb hpre.2) (Sat.ob (decide_eq_true hpre.2.2.1) (Sat.br (fun hne => ?_) (fun heq => ?_)))))
  · refine Sat.fin ⟨fun h => (by cases h), fun h => ?_⟩
    have hl := congrArg List.length h
    replace hl : (recs mkEv ρ 0).length = (recs mkEv ρ 4).length := hl
    rw [recs_length, recs_length] at hl
    have a := hpre.1.2.1
    have b := hpre.2.2.1
    simp only [D.le, D.lef, D.lt, D.ltf, D.eq, D.eqf, D.not, D.notf, D.and, D.andf, D.or, D.orf, D.inr, D.var, D.lit, D.cellB, D.beq, D.beqf, D.litI, D.varI, D.add, D.sub, D.mul, D.min, D.max, D.cellI, D.i64min, D.i64max, Nat.zero_add, Nat.reduceAdd] at *
    omega
  · replace heq : ρ.iv 1 = ρ.iv 5 := by simpa only [D.le, D.lef, D.lt, D.ltf, D.eq, D.eqf, D.not, D.notf, D.and, D.andf, D.or, D.orf, D.inr, D.var, D.lit, D.cellB, D.beq, D.beqf, D.litI, D.varI, D.add, D.sub, D.mul, D.min, D.max, D.cellI, D.i64min, D.i64max] using heq
    refine Sat.loop alikeInv (fun r => (r.iv 1 - r.iv 8).toNat) ⟨⟨Int.le_refl 0, hpre.1.2.1⟩, fun i hi => ?_⟩ fun e hI => ?_
    · have : (i : Int) < 0 := hi
      omega
    replace hpre : alikePre (ρ.join 8 e) := hpre
    replace hI : alikeInv (ρ.join 8 e) := hI
    replace heq : (ρ.join 8 e).iv 1 = (ρ.join 8 e).iv 5 := heq
    rw [show ((ρ.join 8 e).num.iv 1 - (ρ.join 8 e).num.iv 8).toNat = ((ρ.join 8 e).iv 1 - (ρ.join 8 e).iv 8).toNat from rfl]
    generalize ρ.join 8 e = r at *
    obtain ⟨⟨i1, i2⟩, i3⟩ := hI
    refine Sat.br (fun hlt => ?_) (fun hge => ?_)
    · replace hlt : r.iv 8 < r.iv 1 := of_decide_eq_true hlt
      refine Sat.ob (nilLt hpre.1 (by simp only [Nat.zero_add]; omega)) (Sat.ob (decide_eq_true i1) (Sat.ob (nilLt hpre.2 (by simp only [Nat.reduceAdd]; omega)) (Sat.ob (decide_eq_true (by simp only [IE.den]; omega)) (Sat.br (fun hne => ?_) (fun hsame => ?_)))))
      · refine Sat.fin ⟨fun h => (by cases h), fun h => ?_⟩
        have h1 : (recs mkEv r 0)[(r.iv 8).toNat]? = (recs mkEv r 4)[(r.iv 8).toNat]? := congrArg (fun l => l[(r.iv 8).toNat]?) h
        rw [recs_get (by simp only [Nat.zero_add]; omega), recs_get (by simp only [Nat.reduceAdd]; omega)] at h1
        simp [recAt, mkEv] at h1
        simp [BE.den, IE.den, h1] at hne
      · have hle := hpre.1.2.2.2
        have hle2 := hpre.1.2.2.1
        simp only [Nat.zero_add, Nat.reduceAdd] at hle hle2
        refine Sat.ob (by simp only [D.le, D.lef, D.lt, D.ltf, D.eq, D.eqf, D.not, D.notf, D.and, D.andf, D.or, D.orf, D.inr, D.var, D.lit, D.cellB, D.beq, D.beqf, D.litI, D.varI, D.add, D.sub, D.mul, D.min, D.max, D.cellI, D.i64min, D.i64max]; omega) (Sat.back rfl ⟨⟨⟨?_, ?_⟩, fun i hi => ?_⟩, ?_⟩)
        · show 0 ≤ r.iv 8 + 1
          omega
        · show r.iv 8 + 1 ≤ r.iv 1
          omega
        · replace hi : (i : Int) < r.iv 8 + 1 := hi
          show recAt mkEv r 3 i = recAt mkEv r 7 i
          by_cases h : (i : Int) < r.iv 8
          · exact i3 i h
          · have hi2 : i = (r.iv 8).toNat := by omega
            subst hi2
            simp [BE.den, IE.den] at hsame
            simp [recAt, mkEv, hsame]
        · show (r.iv 1 - (r.iv 8 + 1)).toNat < (r.iv 1 - r.iv 8).toNat
          omega
    · replace hge : ¬ r.iv 8 < r.iv 1 := of_decide_eq_false hge
      refine Sat.fin ⟨fun _ => ?_, fun _ => rfl⟩
      show recs mkEv r 0 = recs mkEv r 4
      exact recs_same (by simp only [Nat.zero_add, Nat.reduceAdd]; exact heq) fun i hi => i3 i (by simp only [Nat.reduceAdd] at hi; omega)
theorem alike_con : ConOK Tryd.prog alikeCon alikePre alikePost :=
  con_ok tabOK (E := alikeE) (cs := []) rfl (fun k pre post h => by cases h) schedOK rfl alike_run (by kernel_rfl) (fun ρ _ p hp => by cases hp) alike_sat
end Go.Proofs.YtjhnfmfajbghbaaDoor
