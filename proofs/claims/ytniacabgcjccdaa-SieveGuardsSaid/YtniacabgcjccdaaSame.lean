/- 'Same': what it answers -/
import Derived.Test.YtniacabgcjccdaaIn
set_option linter.unusedSimpArgs false
set_option linter.unusedVariables false
namespace Go.Proofs.Ytniacabgcjccdaa
open Go.Rex
noncomputable def sameE : Ex := { sched := sched, loops := [L16], fin := sameCon }
def sameOut : Out :=
  .ob (.or (.not (.var 0)) (.ieq (.var 1) (.lit 0))) <|
   .ob (.ile (.lit 0) (.var 1)) <|
   .ob (.or (.not (.var 4)) (.ieq (.var 5) (.lit 0))) <|
   .ob (.ile (.lit 0) (.var 5)) <|
   .br (.not (.ieq (.var 1) (.var 5)))
   (.fin { lo := 8, lob := 2, bv := [(8, (.lit false))] })
   (.loop 8 { lo := 8, lob := 2, iv := [(8, (.lit 0))] } <|
    .br (.ilt (.var 8) (.var 1))
    (.ob (.not (.var 0)) <|
     .ob (.ile (.lit 0) (.var 8)) <|
     .ob (.not (.var 4)) <|
     .ob (.ilt (.var 8) (.var 5)) <|
     .br (.not (.and (.and (.ieq (.cell 3 (.var 8) (.lit 0) 0) (.cell 7 (.var 8) (.lit 0) 0)) (.and (.ieq (.cell 3 (.var 8) (.lit 0) 1) (.cell 7 (.var 8) (.lit 0) 1)) (.and (.ieq (.cell 3 (.var 8) (.lit 0) 2) (.cell 7 (.var 8) (.lit 0) 2)) (.and (.ieq (.cell 3 (.var 8) (.lit 0) 3) (.cell 7 (.var 8) (.lit 0) 3)) (.beq (.cell 3 (.var 8) (.lit 0) 4) (.cell 7 (.var 8) (.lit 0) 4)))))) (.and (.ieq (.cell 3 (.var 8) (.lit 0) 5) (.cell 7 (.var 8) (.lit 0) 5)) (.ieq (.cell 3 (.var 8) (.lit 0) 6) (.cell 7 (.var 8) (.lit 0) 6)))))
     (.fin { lo := 8, lob := 2, bv := [(8, (.lit false))] })
     (.ob (.inr .i64 (.add (.var 8) (.lit 1))) <|
      .back 0 { lo := 8, lob := 2, iv := [(8, (.add (.var 8) (.lit 1)))] }))
    (.fin { lo := 8, lob := 2, bv := [(8, (.lit true))] }))
theorem same_run : exec tab sameE 4000 [] (cfg0 16 8 [] [] sameCon.hp sameCon.args) = sameOut := by kernel_rfl
def samePost (ρ : Env) : Prop := notes ρ 0 = notes ρ 4 → ρ.bv 8 = true
theorem notes_get {ρ : Env} {b b' : Nat} (h : notes ρ b = notes ρ b') {i : Nat} (hi : i < (ρ.iv (b + 1)).toNat) : noteAt ρ (b + 3) i = noteAt ρ (b' + 3) i := by
  have hl : (ρ.iv (b + 1)).toNat = (ρ.iv (b' + 1)).toNat := by rw [← notes_length, ← notes_length, h]
  have := congrArg (fun l => l[i]?) h
  simpa [notes, hi, ← hl] using this
theorem same_sat (ρ : Env) (hpre : twoPre ρ.num) : Sat samePost [] [] ρ sameOut := by
  replace hpre : twoPre ρ := hpre
  unfold sameOut
  refine Sat.ob (nilOb hpre.1) (Sat.ob (decide_eq_true hpre.1.2.1) (Sat.ob (nilOb hpre.2.2.1) (Sat.ob (decide_eq_true hpre.2.2.1.2.1) (Sat.br (fun hne => ?_) (fun heq => ?_)))))
  · refine Sat.fin fun h => ?_
    have hl : (ρ.iv 1).toNat = (ρ.iv 5).toNat := by
      have := congrArg List.length h
      rwa [notes_length, notes_length] at this
    obtain ⟨a1, a5, b1, b5⟩ := hpre
    simp only [D.le, D.lef, D.lt, D.ltf, D.eq, D.eqf, D.not, D.notf, D.and, D.andf, D.or, D.orf, D.inr, D.var, D.lit, D.cellB, D.beq, D.beqf, D.litI, D.varI, D.add, D.sub, D.mul, D.min, D.max, D.cellI, D.i64min, D.i64max] at hne
    have := a1.2.1
    have := b1.2.1
    simp only [Nat.reduceAdd] at *
    omega
  · replace heq : ρ.iv 1 = ρ.iv 5 := by simp only [D.le, D.lef, D.lt, D.ltf, D.eq, D.eqf, D.not, D.notf, D.and, D.andf, D.or, D.orf, D.inr, D.var, D.lit, D.cellB, D.beq, D.beqf, D.litI, D.varI, D.add, D.sub, D.mul, D.min, D.max, D.cellI, D.i64min, D.i64max] at heq; exact heq
    refine Sat.loop inInv (fun r => (r.iv 1 - r.iv 8).toNat) ⟨Int.le_refl 0, hpre.1.2.1⟩ fun e hI => ?_
    replace hpre : twoPre (ρ.join 8 e) := hpre
    replace hI : inInv (ρ.join 8 e) := hI
    replace heq : (ρ.join 8 e).iv 1 = (ρ.join 8 e).iv 5 := heq
    rw [show ((ρ.join 8 e).num.iv 1 - (ρ.join 8 e).num.iv 8).toNat = ((ρ.join 8 e).iv 1 - (ρ.join 8 e).iv 8).toNat from rfl]
    generalize ρ.join 8 e = r at *
    obtain ⟨i1, i2⟩ := hI
    refine Sat.br (fun hlt => ?_) (fun hge => Sat.fin fun _ => rfl)
    replace hlt : r.iv 8 < r.iv 1 := of_decide_eq_true hlt
    refine Sat.ob ?_ (Sat.ob (decide_eq_true i1) (Sat.ob ?_ (Sat.ob (decide_eq_true (show r.iv 8 < r.iv 5 by omega)) (Sat.br (fun hc => ?_) (fun hc => ?_)))))
    · simp only [D.le, D.lef, D.lt, D.ltf, D.eq, D.eqf, D.not, D.notf, D.and, D.andf, D.or, D.orf, D.inr, D.var, D.lit, D.cellB, D.beq, D.beqf, D.litI, D.varI, D.add, D.sub, D.mul, D.min, D.max, D.cellI, D.i64min, D.i64max]
      cases h : r.bv 0
      · rfl
      · have := hpre.1.1 h
        simp only [Nat.zero_add] at this
        omega
    · simp only [D.le, D.lef, D.lt, D.ltf, D.eq, D.eqf, D.not, D.notf, D.and, D.andf, D.or, D.orf, D.inr, D.var, D.lit, D.cellB, D.beq, D.beqf, D.litI, D.varI, D.add, D.sub, D.mul, D.min, D.max, D.cellI, D.i64min, D.i64max]
      cases h : r.bv 4
      · rfl
      · have := hpre.2.2.1.1 h
        simp only [Nat.reduceAdd] at this
        omega
    · refine Sat.fin fun h => ?_
      have h : notes r 0 = notes r 4 := h
      have := notes_get h (i := (r.iv 8).toNat) (by simp only [Nat.zero_add]; omega)
      simp only [noteAt, Note.mk.injEq, Nat.reduceAdd] at this
      have h2 := D.not.mp hc
      refine absurd ?_ (Bool.eq_false_iff.1 h2)
      simp only [D.le, D.lef, D.lt, D.ltf, D.eq, D.eqf, D.not, D.notf, D.and, D.andf, D.or, D.orf, D.inr, D.var, D.lit, D.cellB, D.beq, D.beqf, D.litI, D.varI, D.add, D.sub, D.mul, D.min, D.max, D.cellI, D.i64min, D.i64max]
      simp_all
    · obtain ⟨a1, a5, b1, b5⟩ := hpre
      refine Sat.ob ?_ (Sat.back rfl ⟨⟨?_, ?_⟩, ?_⟩)
      · simp only [D.le, D.lef, D.lt, D.ltf, D.eq, D.eqf, D.not, D.notf, D.and, D.andf, D.or, D.orf, D.inr, D.var, D.lit, D.cellB, D.beq, D.beqf, D.litI, D.varI, D.add, D.sub, D.mul, D.min, D.max, D.cellI, D.i64min, D.i64max]; omega
      · show 0 ≤ r.iv 8 + 1; omega
      · show r.iv 8 + 1 ≤ r.iv 1; omega
      · show (r.iv 1 - (r.iv 8 + 1)).toNat < (r.iv 1 - r.iv 8).toNat
        omega
theorem same_con {P : Program} (hT : TabOK P tab) : ConOK P sameCon twoPre samePost :=
  con_ok hT (E := sameE) (cs := []) rfl (fun k pre post h => by cases h) schedOK rfl same_run (by kernel_rfl) (fun ρ _ p hp => by cases hp) same_sat
end Go.Proofs.Ytniacabgcjccdaa
