/- 'count' and 'awake': what they answer -/
import Derived.Test.YtniacabgcjccdaaSpec
import Derived.Test.YtniacabgcjccdaaWords
set_option linter.unusedSimpArgs false
set_option linter.unusedVariables false
namespace Go.Proofs.Ytniacabgcjccdaa
open Go.Rex
noncomputable def awakeE : Ex := { sched := sched, loops := [], fin := awakeCon }
def awakeOut : Out :=
  .new 0 [.be (.and (.ile (.lit 1) (.var 0)) (.ile (.var 0) (.lit 9223372036854775807)))] <|
   .new 1 [.be (.and (.ile (.lit 2) (.var 1)) (.ile (.var 1) (.lit 9223372036854775807)))] <|
   .new 2 [.be (.and (.ile (.lit 1) (.var 2)) (.ile (.var 2) (.lit 9223372036854775807)))] <|
   .new 3 [.be (.and (.ile (.lit 1) (.var 3)) (.ile (.var 3) (.lit 9223372036854775807)))] <|
   .new 4 [.be (.and (.ile (.lit 1) (.var 4)) (.ile (.var 4) (.lit 9223372036854775807)))] <|
   .new 5 [.be (.and (.ile (.lit 1) (.var 5)) (.ile (.var 5) (.lit 9223372036854775807)))] <|
   .new 6 [.be (.and (.ile (.lit 1) (.var 6)) (.ile (.var 6) (.lit 9223372036854775807)))] <|
   .new 7 [.be (.and (.ile (.lit 2) (.var 7)) (.ile (.var 7) (.lit 9223372036854775807)))] <|
   .fin { lo := 0, lob := 0 }
theorem awake_run : exec tab awakeE 4000 [] (cfg0 8 0 [] [] awakeCon.hp awakeCon.args) = awakeOut := by kernel_rfl
def yesPre (_ : Env) : Prop := True
theorem awake_con {P : Program} (hT : TabOK P tab) : ConOK P awakeCon yesPre yesPre :=
  con_ok hT (E := awakeE) (cs := []) rfl (fun k pre post h => by cases h) schedOK rfl awake_run (by kernel_rfl) (fun ρ _ p hp => by cases hp)
    fun _ _ => Sat.new fun _ _ => Sat.new fun _ _ => Sat.new fun _ _ => Sat.new fun _ _ => Sat.new fun _ _ => Sat.new fun _ _ => Sat.new fun _ _ => Sat.new fun _ _ => Sat.fin trivial
noncomputable def countE : Ex := { sched := sched, loops := [L14], fin := countCon }
def countOut : Out :=
  .loop 11 { lo := 11, lob := 2, iv := [(12, (.lit 0)), (11, (.lit 0))] } <|
   .ob (.or (.not (.var 0)) (.ieq (.var 1) (.lit 0))) <|
   .ob (.ile (.lit 0) (.var 1)) <|
   .br (.ilt (.var 12) (.var 1))
   (.ob (.not (.var 0)) <|
    .ob (.ile (.lit 0) (.var 12)) <|
    .br (.and (.and (.ieq (.cell 3 (.var 12) (.lit 0) 0) (.var 4)) (.and (.ieq (.cell 3 (.var 12) (.lit 0) 1) (.var 5)) (.and (.ieq (.cell 3 (.var 12) (.lit 0) 2) (.var 6)) (.and (.ieq (.cell 3 (.var 12) (.lit 0) 3) (.var 7)) (.beq (.cell 3 (.var 12) (.lit 0) 4) (.var 8)))))) (.and (.ieq (.cell 3 (.var 12) (.lit 0) 5) (.var 9)) (.ieq (.cell 3 (.var 12) (.lit 0) 6) (.var 10))))
    (.ob (.inr .i64 (.add (.var 11) (.lit 1))) <|
     .ob (.inr .i64 (.add (.var 12) (.lit 1))) <|
     .back 0 { lo := 11, lob := 2, iv := [(12, (.add (.var 12) (.lit 1))), (11, (.add (.var 11) (.lit 1)))] })
    (.ob (.inr .i64 (.add (.var 12) (.lit 1))) <|
     .back 0 { lo := 11, lob := 2, iv := [(12, (.add (.var 12) (.lit 1))), (11, (.var 11))] }))
   (.fin { lo := 11, lob := 1, iv := [(11, (.var 11))] })
theorem count_run : exec tab countE 4000 [] (cfg0 14 11 [] [] countCon.hp countCon.args) = countOut := by kernel_rfl
def countPre (ρ : Env) : Prop := OkSl ρ 0 ∧ ρ.iv 1 ≤ 1000000
def countPost (ρ : Env) : Prop := ρ.iv 11 = ((notes ρ 0).count (noteV ρ 4) : Nat)
def countInv (ρ : Env) : Prop := (0 ≤ ρ.iv 12 ∧ ρ.iv 12 ≤ ρ.iv 1) ∧ ρ.iv 11 = (((notes ρ 0).take (ρ.iv 12).toNat).count (noteV ρ 4) : Nat)
theorem notes_step {ρ : Env} {b i : Nat} (h : i < (ρ.iv (b + 1)).toNat) (x : Note) : ((notes ρ b).take (i + 1)).count x = ((notes ρ b).take i).count x + if noteAt ρ (b + 3) i = x then 1 else 0 := by
  rw [notes_take h, List.count_append, List.count_singleton]
  simp
theorem count_sat (ρ : Env) (hpre : countPre ρ.num) : Sat countPost [] [] ρ countOut := by
  replace hpre : countPre ρ := hpre
  unfold countOut
  refine Sat.loop countInv (fun r => (r.iv 1 - r.iv 12).toNat) ⟨⟨Int.le_refl 0, hpre.1.2.1⟩, rfl⟩ fun e hI => ?_
  replace hpre : countPre (ρ.join 11 e) := hpre
  replace hI : countInv (ρ.join 11 e) := hI
  rw [show ((ρ.join 11 e).num.iv 1 - (ρ.join 11 e).num.iv 12).toNat = ((ρ.join 11 e).iv 1 - (ρ.join 11 e).iv 12).toNat from rfl]
  generalize ρ.join 11 e = r at *
  obtain ⟨⟨i1, i2⟩, n1⟩ := hI
  obtain ⟨a1, a5⟩ := hpre
  refine Sat.ob (nilOb a1) (Sat.ob (decide_eq_true a1.2.1) (Sat.br (fun hlt => ?_) (fun hge => ?_)))
  · replace hlt : r.iv 12 < r.iv 1 := of_decide_eq_true hlt
    have hst := notes_step (ρ := r) (b := 0) (i := (r.iv 12).toNat) (by simp only [Nat.zero_add]; omega) (noteV r 4)
    have hle : ((notes r 0).take (r.iv 12).toNat).count (noteV r 4) ≤ (r.iv 12).toNat := Nat.le_trans List.count_le_length (List.length_take_le _ _)
    refine Sat.ob ?_ (Sat.ob (decide_eq_true i1) (Sat.br (fun heq => ?_) (fun hne => ?_)))
    · simp only [D.le, D.lef, D.lt, D.ltf, D.eq, D.eqf, D.not, D.notf, D.and, D.andf, D.or, D.orf, D.inr, D.var, D.lit, D.cellB, D.beq, D.beqf, D.litI, D.varI, D.add, D.sub, D.mul, D.min, D.max, D.cellI, D.i64min, D.i64max]
      cases h : r.bv 0
      · rfl
      · have := a1.1 h
        simp only [Nat.zero_add] at this
        omega
    · have hx : noteAt r 3 (r.iv 12).toNat = noteV r 4 := by
        simp only [D.le, D.lef, D.lt, D.ltf, D.eq, D.eqf, D.not, D.notf, D.and, D.andf, D.or, D.orf, D.inr, D.var, D.lit, D.cellB, D.beq, D.beqf, D.litI, D.varI, D.add, D.sub, D.mul, D.min, D.max, D.cellI, D.i64min, D.i64max] at heq
        simp only [noteAt, noteV, Note.mk.injEq]
        simp_all
      refine Sat.ob ?_ (Sat.ob ?_ (Sat.back rfl ⟨⟨⟨?_, ?_⟩, ?_⟩, ?_⟩))
      · simp only [D.le, D.lef, D.lt, D.ltf, D.eq, D.eqf, D.not, D.notf, D.and, D.andf, D.or, D.orf, D.inr, D.var, D.lit, D.cellB, D.beq, D.beqf, D.litI, D.varI, D.add, D.sub, D.mul, D.min, D.max, D.cellI, D.i64min, D.i64max]; omega
      · simp only [D.le, D.lef, D.lt, D.ltf, D.eq, D.eqf, D.not, D.notf, D.and, D.andf, D.or, D.orf, D.inr, D.var, D.lit, D.cellB, D.beq, D.beqf, D.litI, D.varI, D.add, D.sub, D.mul, D.min, D.max, D.cellI, D.i64min, D.i64max]; omega
      · show 0 ≤ r.iv 12 + 1; omega
      · show r.iv 12 + 1 ≤ r.iv 1; omega
      · show r.iv 11 + 1 = (((notes r 0).take (r.iv 12 + 1).toNat).count (noteV r 4) : Nat)
        rw [show (r.iv 12 + 1).toNat = (r.iv 12).toNat + 1 by omega, hst, n1, if_pos hx]
        omega
      · show (r.iv 1 - (r.iv 12 + 1)).toNat < (r.iv 1 - r.iv 12).toNat
        omega
    · have hx : ¬ noteAt r 3 (r.iv 12).toNat = noteV r 4 := fun h => by
        simp only [noteAt, noteV, Note.mk.injEq] at h
        refine Bool.false_ne_true (hne.symm.trans ?_)
        simp only [D.le, D.lef, D.lt, D.ltf, D.eq, D.eqf, D.not, D.notf, D.and, D.andf, D.or, D.orf, D.inr, D.var, D.lit, D.cellB, D.beq, D.beqf, D.litI, D.varI, D.add, D.sub, D.mul, D.min, D.max, D.cellI, D.i64min, D.i64max]
        simp_all
      refine Sat.ob ?_ (Sat.back rfl ⟨⟨⟨?_, ?_⟩, ?_⟩, ?_⟩)
      · simp only [D.le, D.lef, D.lt, D.ltf, D.eq, D.eqf, D.not, D.notf, D.and, D.andf, D.or, D.orf, D.inr, D.var, D.lit, D.cellB, D.beq, D.beqf, D.litI, D.varI, D.add, D.sub, D.mul, D.min, D.max, D.cellI, D.i64min, D.i64max]; omega
      · show 0 ≤ r.iv 12 + 1; omega
      · show r.iv 12 + 1 ≤ r.iv 1; omega
      · show r.iv 11 = (((notes r 0).take (r.iv 12 + 1).toNat).count (noteV r 4) : Nat)
        rw [show (r.iv 12 + 1).toNat = (r.iv 12).toNat + 1 by omega, hst, n1, if_neg hx]
        rfl
      · show (r.iv 1 - (r.iv 12 + 1)).toNat < (r.iv 1 - r.iv 12).toNat
        omega
  · replace hge : ¬ r.iv 12 < r.iv 1 := of_decide_eq_false hge
    rw [notes_full _ _ (by simp only [Nat.zero_add]; omega)] at n1
    exact Sat.fin n1
theorem count_con {P : Program} (hT : TabOK P tab) : ConOK P countCon countPre countPost :=
  con_ok hT (E := countE) (cs := []) rfl (fun k pre post h => by cases h) schedOK rfl count_run (by kernel_rfl) (fun ρ _ p hp => by cases hp) count_sat
end Go.Proofs.Ytniacabgcjccdaa
