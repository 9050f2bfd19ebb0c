/- 'in': what it answers -/
import Derived.Test.YtniacabgcjccdaaCount
set_option linter.unusedSimpArgs false
set_option linter.unusedVariables false
namespace Go.Proofs.Ytniacabgcjccdaa
open Go.Rex
noncomputable def inE : Ex := { sched := sched, loops := [L15], cons := [countCon], fin := inCon }
def inOut : Out :=
  .loop 8 { lo := 8, lob := 2, iv := [(8, (.lit 0))] } <|
   .ob (.or (.not (.var 0)) (.ieq (.var 1) (.lit 0))) <|
   .ob (.ile (.lit 0) (.var 1)) <|
   .br (.ilt (.var 8) (.var 1))
   (.ob (.not (.var 0)) <|
    .ob (.ile (.lit 0) (.var 8)) <|
    .call 0 { lo := 0, lob := 0, iv := [(10, (.cell 3 (.var 8) (.lit 0) 6)), (9, (.cell 3 (.var 8) (.lit 0) 5)), (7, (.cell 3 (.var 8) (.lit 0) 3)), (6, (.cell 3 (.var 8) (.lit 0) 2)), (5, (.cell 3 (.var 8) (.lit 0) 1)), (4, (.cell 3 (.var 8) (.lit 0) 0)), (2, (.var 6)), (1, (.var 5))], bv := [(8, (.cell 3 (.var 8) (.lit 0) 4)), (0, (.var 4))], ct := [(3, .up { r := 7, n1 := (.var 5), s1 := 7, ks := [.int .i64, .int .i64, .int .i64, .int .i64, .bool, .int .i64, .int .i64] } 0 [] (.lit 0))], bk := [(0, { blk := 1, i1 := (.lit 0), s1 := 7 })] } 9 <|
    .call 0 { lo := 0, lob := 0, iv := [(10, (.cell 3 (.var 8) (.lit 0) 6)), (9, (.cell 3 (.var 8) (.lit 0) 5)), (7, (.cell 3 (.var 8) (.lit 0) 3)), (6, (.cell 3 (.var 8) (.lit 0) 2)), (5, (.cell 3 (.var 8) (.lit 0) 1)), (4, (.cell 3 (.var 8) (.lit 0) 0)), (2, (.var 2)), (1, (.var 1))], bv := [(8, (.cell 3 (.var 8) (.lit 0) 4)), (0, (.var 0))], ct := [(3, .up { r := 3, n1 := (.var 1), s1 := 7, ks := [.int .i64, .int .i64, .int .i64, .int .i64, .bool, .int .i64, .int .i64] } 0 [] (.lit 0))], bk := [(0, { blk := 0, i1 := (.lit 0), s1 := 7 })] } 10 <|
    .br (.ilt (.var 9) (.var 10))
    (.fin { lo := 8, lob := 2, bv := [(8, (.lit false))] })
    (.ob (.inr .i64 (.add (.var 8) (.lit 1))) <|
     .back 0 { lo := 8, lob := 2, iv := [(8, (.add (.var 8) (.lit 1)))] }))
   (.fin { lo := 8, lob := 2, bv := [(8, (.lit true))] })
theorem in_run : exec tab inE 4000 [] (cfg0 15 8 [] [] inCon.hp inCon.args) = inOut := by kernel_rfl
def twoPre (ρ : Env) : Prop := OkSl ρ 0 ∧ ρ.iv 1 ≤ 1000000 ∧ OkSl ρ 4 ∧ ρ.iv 5 ≤ 1000000
def inPost (ρ : Env) : Prop := (∀ x, x ∈ notes ρ 0 → (notes ρ 0).count x ≤ (notes ρ 4).count x) → ρ.bv 8 = true
def inInv (ρ : Env) : Prop := 0 ≤ ρ.iv 8 ∧ ρ.iv 8 ≤ ρ.iv 1
theorem noteAt_mem {ρ : Env} {b i : Nat} (h : i < (ρ.iv (b + 1)).toNat) : noteAt ρ (b + 3) i ∈ notes ρ b := List.mem_map.2 ⟨i, List.mem_range.2 h, rfl⟩
def countSem : CSem := [(countCon, countPre, countPost)]
theorem in_sat (ρ : Env) (hpre : twoPre ρ.num) : Sat inPost countSem [] ρ inOut := by
  replace hpre : twoPre ρ := hpre
  unfold inOut
  refine Sat.loop inInv (fun r => (r.iv 1 - r.iv 8).toNat) ⟨Int.le_refl 0, hpre.1.2.1⟩ fun e hI => ?_
  replace hpre : twoPre (ρ.join 8 e) := hpre
  replace hI : inInv (ρ.join 8 e) := hI
  rw [show ((ρ.join 8 e).num.iv 1 - (ρ.join 8 e).num.iv 8).toNat = ((ρ.join 8 e).iv 1 - (ρ.join 8 e).iv 8).toNat from rfl]
  generalize ρ.join 8 e = r at *
  refine Sat.ob (nilOb hpre.1) (Sat.ob (decide_eq_true hpre.1.2.1) (Sat.br (fun hlt => ?_) (fun hge => ?_)))
  · replace hlt : r.iv 8 < r.iv 1 := of_decide_eq_true hlt
    refine Sat.ob ?_ (Sat.ob (decide_eq_true hI.1) (Sat.call rfl ⟨hpre.2.2.1, hpre.2.2.2⟩ fun e1 h1 => Sat.call rfl ⟨hpre.1, hpre.2.1⟩ fun e2 h2 => Sat.br (fun hc => ?_) (fun hc => ?_)))
    · obtain ⟨a1, a5, b1, b5⟩ := hpre
      obtain ⟨i1, i2⟩ := hI
      simp only [D.le, D.lef, D.lt, D.ltf, D.eq, D.eqf, D.not, D.notf, D.and, D.andf, D.or, D.orf, D.inr, D.var, D.lit, D.cellB, D.beq, D.beqf, D.litI, D.varI, D.add, D.sub, D.mul, D.min, D.max, D.cellI, D.i64min, D.i64max]
      cases h : r.bv 0
      · rfl
      · have := a1.1 h
        simp only [Nat.zero_add] at this
        omega
    · replace h1 : e1.iv 9 = ((notes r 4).count (noteAt r 3 (r.iv 8).toNat) : Nat) :=
        Eq.trans h1 (congrArg (a₂ := notes r 4) (fun l => ((l.count (noteAt r 3 (r.iv 8).toNat) : Nat) : Int)) (by exact notes_same rfl fun i _ => by simp [noteAt, conEnv, countCon, Env.join, Sub.nenv, assoc, CV.I, CV.B, upsI, upsB, Seg.I, Seg.B, SC.I, SC.B, IE.den, BE.den]))
      replace h2 : e2.iv 10 = ((notes r 0).count (noteAt r 3 (r.iv 8).toNat) : Nat) :=
        Eq.trans h2 (congrArg (a₂ := notes r 0) (fun l => ((l.count (noteAt r 3 (r.iv 8).toNat) : Nat) : Int)) (by exact notes_same rfl fun i _ => by simp [noteAt, conEnv, countCon, Env.join, Sub.nenv, assoc, CV.I, CV.B, upsI, upsB, Seg.I, Seg.B, SC.I, SC.B, IE.den, BE.den]))
      replace hc : e1.iv 9 < e2.iv 10 := of_decide_eq_true hc
      refine Sat.fin fun hall => ?_
      have e0 : notes r 0 = notes (((r.join 9 e1).join 10 e2)) 0 := notes_same rfl fun i _ => rfl
      have := hall (noteAt r 3 (r.iv 8).toNat) (noteAt_mem (ρ := r) (b := 0) (by simp only [Nat.zero_add]; have := hI.1; omega))
      replace this : (notes r 0).count (noteAt r 3 (r.iv 8).toNat) ≤ (notes r 4).count (noteAt r 3 (r.iv 8).toNat) := this
      omega
    · obtain ⟨i1, i2⟩ := hI
      obtain ⟨a1, a5, b1, b5⟩ := hpre
      refine Sat.ob ?_ (Sat.back rfl ⟨⟨?_, ?_⟩, ?_⟩)
      · simp only [D.le, D.lef, D.lt, D.ltf, D.eq, D.eqf, D.not, D.notf, D.and, D.andf, D.or, D.orf, D.inr, D.var, D.lit, D.cellB, D.beq, D.beqf, D.litI, D.varI, D.add, D.sub, D.mul, D.min, D.max, D.cellI, D.i64min, D.i64max]
        simp only [Env.join]
        simp
        omega
      · show 0 ≤ r.iv 8 + 1; omega
      · show r.iv 8 + 1 ≤ r.iv 1; omega
      · show (r.iv 1 - (r.iv 8 + 1)).toNat < (r.iv 1 - r.iv 8).toNat
        omega
  · exact Sat.fin fun _ => rfl
theorem in_con {P : Program} (hT : TabOK P tab) : ConOK P inCon twoPre inPost :=
  con_ok hT (E := inE) (cs := countSem) rfl (fun k pre post h => by
    cases h with
    | head => exact ⟨by kernel_rfl, count_con hT⟩
    | tail _ h => cases h) schedOK rfl in_run (by kernel_rfl) (fun ρ _ p hp => by cases hp) in_sat
end Go.Proofs.Ytniacabgcjccdaa
