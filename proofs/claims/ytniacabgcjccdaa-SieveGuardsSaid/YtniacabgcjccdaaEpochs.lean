/- 'Epochs': what it leaves -/
import Derived.Test.YtniacabgcjccdaaSpec
import Derived.Test.YtniacabgcjccdaaWords
set_option linter.unusedSimpArgs false
set_option linter.unusedVariables false
namespace Go.Proofs.Ytniacabgcjccdaa
open Go.Rex
noncomputable def epochsE : Ex := { sched := sched, loops := [L21], fin := epochsCon }
def epochsOut : Out :=
  .ob (.or (.not (.var 0)) (.ieq (.var 1) (.lit 0))) <|
   .ob (.ile (.lit 0) (.var 1)) <|
   .loop 8 { lo := 8, lob := 2, iv := [(16, (.lit 0)), (14, (.lit 0)), (13, (.lit 0)), (10, (.lit 0)), (9, (.lit 0))], bv := [(12, (.lit true)), (8, (.lit true))], nb := [3, 2] } <|
   .br (.ilt (.var 16) (.var 1))
   (.ob (.not (.var 0)) <|
    .ob (.ile (.lit 0) (.var 16)) <|
    .ob (.or (.ilt (.var 4) (.lit (-9223372036854775806))) (.inr .i64 (.sub (.var 4) (.lit 2)))) <|
    .br (.or (.ilt (.var 4) (.lit (-9223372036854775806))) (.ilt (.sub (.var 4) (.lit 2)) (.cell 3 (.var 16) (.lit 0) 6)))
    (.ob (.ile (.mul (.add (.var 13) (.lit 1)) (.lit 56)) (.lit 140737488355328)) <|
     .ob (.ile (.lit 0) (.var 13)) <|
     .ob (.ile (.var 13) (.var 14)) <|
     .ob (.ile (.var 14) (.lit 9223372036854775807)) <|
     .ob (.or (.not (.var 12)) (.ieq (.var 13) (.lit 0))) <|
     .new 17 [.be (.and (.ile (.add (.var 13) (.lit 1)) (.var 17)) (.ile (.var 17) (.lit 9223372036854775807)))] <|
     .ob (.inr .i64 (.add (.var 16) (.lit 1))) <|
     .back 0 { lo := 8, lob := 2, iv := [(16, (.add (.var 16) (.lit 1))), (14, (.var 17)), (13, (.add (.var 13) (.lit 1))), (10, (.var 10)), (9, (.var 9))], bv := [(12, (.lit false)), (8, (.var 8))], ct := [(15, .up { r := 15, n1 := (.add (.var 13) (.lit 1)), s1 := 7, ks := [.int .i64, .int .i64, .int .i64, .int .i64, .bool, .int .i64, .int .i64] } 0 [⟨0, (.var 13), (.lit 0), 0, .int .i64 (.cell 3 (.var 16) (.lit 0) 0)⟩, ⟨0, (.var 13), (.lit 0), 1, .int .i64 (.cell 3 (.var 16) (.lit 0) 1)⟩, ⟨0, (.var 13), (.lit 0), 2, .int .i64 (.cell 3 (.var 16) (.lit 0) 2)⟩, ⟨0, (.var 13), (.lit 0), 3, .int .i64 (.cell 3 (.var 16) (.lit 0) 3)⟩, ⟨0, (.var 13), (.lit 0), 4, .bool (.cell 3 (.var 16) (.lit 0) 4)⟩, ⟨0, (.var 13), (.lit 0), 5, .int .i64 (.cell 3 (.var 16) (.lit 0) 5)⟩, ⟨0, (.var 13), (.lit 0), 6, .int .i64 (.cell 3 (.var 16) (.lit 0) 6)⟩] (.lit 0)), (11, .up { r := 11, n1 := (.var 9), s1 := 7, ks := [.int .i64, .int .i64, .int .i64, .int .i64, .bool, .int .i64, .int .i64] } 0 [] (.lit 0))], bk := [(3, { blk := 7, i1 := (.lit 0), s1 := 7 }), (2, { blk := 2, i1 := (.lit 0), s1 := 7 })] })
    (.ob (.ile (.mul (.add (.var 9) (.lit 1)) (.lit 56)) (.lit 140737488355328)) <|
     .ob (.ile (.lit 0) (.var 9)) <|
     .ob (.ile (.var 9) (.var 10)) <|
     .ob (.ile (.var 10) (.lit 9223372036854775807)) <|
     .ob (.or (.not (.var 8)) (.ieq (.var 9) (.lit 0))) <|
     .new 17 [.be (.and (.ile (.add (.var 9) (.lit 1)) (.var 17)) (.ile (.var 17) (.lit 9223372036854775807)))] <|
     .ob (.inr .i64 (.add (.var 16) (.lit 1))) <|
     .back 0 { lo := 8, lob := 2, iv := [(16, (.add (.var 16) (.lit 1))), (14, (.var 14)), (13, (.var 13)), (10, (.var 17)), (9, (.add (.var 9) (.lit 1)))], bv := [(12, (.var 12)), (8, (.lit false))], ct := [(15, .up { r := 15, n1 := (.var 13), s1 := 7, ks := [.int .i64, .int .i64, .int .i64, .int .i64, .bool, .int .i64, .int .i64] } 0 [] (.lit 0)), (11, .up { r := 11, n1 := (.add (.var 9) (.lit 1)), s1 := 7, ks := [.int .i64, .int .i64, .int .i64, .int .i64, .bool, .int .i64, .int .i64] } 0 [⟨0, (.var 9), (.lit 0), 0, .int .i64 (.cell 3 (.var 16) (.lit 0) 0)⟩, ⟨0, (.var 9), (.lit 0), 1, .int .i64 (.cell 3 (.var 16) (.lit 0) 1)⟩, ⟨0, (.var 9), (.lit 0), 2, .int .i64 (.cell 3 (.var 16) (.lit 0) 2)⟩, ⟨0, (.var 9), (.lit 0), 3, .int .i64 (.cell 3 (.var 16) (.lit 0) 3)⟩, ⟨0, (.var 9), (.lit 0), 4, .bool (.cell 3 (.var 16) (.lit 0) 4)⟩, ⟨0, (.var 9), (.lit 0), 5, .int .i64 (.cell 3 (.var 16) (.lit 0) 5)⟩, ⟨0, (.var 9), (.lit 0), 6, .int .i64 (.cell 3 (.var 16) (.lit 0) 6)⟩] (.lit 0))], bk := [(3, { blk := 3, i1 := (.lit 0), s1 := 7 }), (2, { blk := 7, i1 := (.lit 0), s1 := 7 })] }))
   (.fin { lo := 8, lob := 1, iv := [(14, (.var 14)), (13, (.var 13)), (10, (.var 10)), (9, (.var 9))], bv := [(12, (.var 12)), (8, (.var 8))], ct := [(15, .up { r := 15, n1 := (.var 13), s1 := 7, ks := [.int .i64, .int .i64, .int .i64, .int .i64, .bool, .int .i64, .int .i64] } 0 [] (.lit 0)), (11, .up { r := 11, n1 := (.var 9), s1 := 7, ks := [.int .i64, .int .i64, .int .i64, .int .i64, .bool, .int .i64, .int .i64] } 0 [] (.lit 0))], bk := [(2, { blk := 3, i1 := (.lit 0), s1 := 7 }), (1, { blk := 2, i1 := (.lit 0), s1 := 7 })] })
theorem epochs_run : exec tab epochsE 4000 [] (cfg0 10 8 [] [] epochsCon.hp epochsCon.args) = epochsOut := by kernel_rfl
def epochsPre (ρ : Env) : Prop := OkSl ρ 0 ∧ ρ.iv 1 ≤ 1000000 ∧ -9223372036854775808 ≤ ρ.iv 4 ∧ ρ.iv 4 ≤ 9223372036854775807
def epochsPost (ρ : Env) : Prop := OkSl ρ 8 ∧ notes ρ 8 = (notes ρ 0).filter (fun n => !keepT (ρ.iv 4) n) ∧ OkSl ρ 12 ∧ notes ρ 12 = (notes ρ 0).filter (keepT (ρ.iv 4))
def epochsInv (ρ : Env) : Prop := (0 ≤ ρ.iv 16 ∧ ρ.iv 16 ≤ ρ.iv 1) ∧ (OkSl ρ 8 ∧ notes ρ 8 = ((notes ρ 0).take (ρ.iv 16).toNat).filter (fun n => !keepT (ρ.iv 4) n)) ∧ OkSl ρ 12 ∧ notes ρ 12 = ((notes ρ 0).take (ρ.iv 16).toNat).filter (keepT (ρ.iv 4))
/-- inside the outer loop -/
def epochsAt (ρ : Env) : Prop := epochsPre ρ ∧ epochsInv ρ ∧ ρ.iv 16 < ρ.iv 1
theorem epochsAt.lens {ρ : Env} (h : epochsAt ρ) : ρ.iv 9 ≤ ρ.iv 16 ∧ ρ.iv 13 ≤ ρ.iv 16 := by
  obtain ⟨⟨a1, a5, b1⟩, ⟨⟨i1, i2⟩, ⟨⟨o1, o2, o3, o4⟩, n1⟩, ⟨⟨p1, p2, p3, p4⟩, n2⟩⟩, hlt⟩ := h
  have l1 : (notes ρ 8).length ≤ (ρ.iv 16).toNat := by
    rw [n1]; refine Nat.le_trans (List.length_filter_le _ _) ?_; rw [List.length_take]; omega
  have l2 : (notes ρ 12).length ≤ (ρ.iv 16).toNat := by
    rw [n2]; refine Nat.le_trans (List.length_filter_le _ _) ?_; rw [List.length_take]; omega
  rw [notes_length] at l1 l2
  simp only [Nat.reduceAdd] at *
  omega
theorem epochsAt.take {ρ : Env} (h : epochsAt ρ) : (notes ρ 0).take (ρ.iv 16 + 1).toNat = (notes ρ 0).take (ρ.iv 16).toNat ++ [noteAt ρ 3 (ρ.iv 16).toNat] := by
  obtain ⟨_, ⟨⟨i1, i2⟩, _⟩, hlt⟩ := h
  rw [show (ρ.iv 16 + 1).toNat = (ρ.iv 16).toNat + 1 by omega]
  exact notes_take (b := 0) (by simp only [Nat.zero_add]; omega)
theorem epochs_sat (ρ : Env) (hpre : epochsPre ρ.num) : Sat epochsPost [] [] ρ epochsOut := by
  replace hpre : epochsPre ρ := hpre
  unfold epochsOut
  refine Sat.ob (nilOb hpre.1) (Sat.ob (decide_eq_true hpre.1.2.1) (Sat.loop epochsInv (fun r => (r.iv 1 - r.iv 16).toNat) ?_ fun e hI => Sat.br (fun hlt => ?_) (fun hge => ?_)))
  · have h2 := hpre.1.2.1
    simp [epochsInv, OkSl, notes, Sub.nenv, assoc, CV.I, CV.B, upsI, upsB, Seg.I, Seg.B, SC.I, SC.B, IE.den, BE.den, h2]
  · replace hpre : epochsPre (ρ.join 8 e) := hpre
    replace hI : epochsInv (ρ.join 8 e) := hI
    replace hlt : (ρ.join 8 e).iv 16 < (ρ.join 8 e).iv 1 := of_decide_eq_true hlt
    have hat : epochsAt (ρ.join 8 e) := ⟨hpre, hI, hlt⟩
    clear hpre hI hlt
    have hm : ((ρ.join 8 e).num.iv 1 - (ρ.join 8 e).num.iv 16).toNat = ((ρ.join 8 e).iv 1 - (ρ.join 8 e).iv 16).toNat := rfl
    rw [hm]
    clear hm
    generalize ρ.join 8 e = r at *
    have hpre := hat.1
    obtain ⟨⟨i1, i2⟩, -⟩ := hat.2.1
    have hlt := hat.2.2
    obtain ⟨l1, l2⟩ := hat.lens
    obtain ⟨⟨o1, o2, o3, o4⟩, n1⟩ := hat.2.1.2.1
    obtain ⟨⟨p1, p2, p3, p4⟩, n2⟩ := hat.2.1.2.2
    have htk := hat.take
    have hpre := hat.1
    obtain ⟨_, a5, b4, b5⟩ := hpre
    simp only [Nat.reduceAdd] at *
    refine Sat.ob ?_ (Sat.ob (decide_eq_true i1) (Sat.ob ?_ (Sat.br (fun heq => ?_) (fun hne => ?_))))
    · simp only [D.le, D.lef, D.lt, D.ltf, D.eq, D.eqf, D.not, D.notf, D.and, D.andf, D.or, D.orf, D.inr, D.var, D.lit, D.cellB, D.beq, D.beqf, D.litI, D.varI, D.add, D.sub, D.mul, D.min, D.max, D.cellI, D.i64min, D.i64max]
      cases h : r.bv 0
      · rfl
      · have := hat.1.1.1 h
        simp only [Nat.zero_add] at this
        omega
    · simp only [D.le, D.lef, D.lt, D.ltf, D.eq, D.eqf, D.not, D.notf, D.and, D.andf, D.or, D.orf, D.inr, D.var, D.lit, D.cellB, D.beq, D.beqf, D.litI, D.varI, D.add, D.sub, D.mul, D.min, D.max, D.cellI, D.i64min, D.i64max]
      omega
    · have hk : keepT (r.iv 4) (noteAt r 3 (r.iv 16).toNat) = true := by
        simp only [D.le, D.lef, D.lt, D.ltf, D.eq, D.eqf, D.not, D.notf, D.and, D.andf, D.or, D.orf, D.inr, D.var, D.lit, D.cellB, D.beq, D.beqf, D.litI, D.varI, D.add, D.sub, D.mul, D.min, D.max, D.cellI, D.i64min, D.i64max] at heq
        exact decide_eq_true heq
      refine Sat.ob ?_ (Sat.ob (decide_eq_true p2) (Sat.ob (decide_eq_true p3) (Sat.ob (decide_eq_true p4) (Sat.ob (nilOb hat.2.1.2.2.1) (Sat.new fun e3 hf => Sat.ob ?_ (Sat.back rfl ⟨?_, ?_⟩))))))
      · simp only [D.le, D.lef, D.lt, D.ltf, D.eq, D.eqf, D.not, D.notf, D.and, D.andf, D.or, D.orf, D.inr, D.var, D.lit, D.cellB, D.beq, D.beqf, D.litI, D.varI, D.add, D.sub, D.mul, D.min, D.max, D.cellI, D.i64min, D.i64max]; omega
      · simp only [D.le, D.lef, D.lt, D.ltf, D.eq, D.eqf, D.not, D.notf, D.and, D.andf, D.or, D.orf, D.inr, D.var, D.lit, D.cellB, D.beq, D.beqf, D.litI, D.varI, D.add, D.sub, D.mul, D.min, D.max, D.cellI, D.i64min, D.i64max]; simp [Env.join]; omega
      · have hf := hf _ (List.mem_singleton.2 rfl)
        simp only [D.be, D.le, D.lef, D.lt, D.ltf, D.eq, D.eqf, D.not, D.notf, D.and, D.andf, D.or, D.orf, D.inr, D.var, D.lit, D.cellB, D.beq, D.beqf, D.litI, D.varI, D.add, D.sub, D.mul, D.min, D.max, D.cellI, D.i64min, D.i64max] at hf
        simp [Env.join] at hf
        refine ⟨⟨by simp [Sub.nenv, assoc, CV.I, CV.B, upsI, upsB, Seg.I, Seg.B, SC.I, SC.B, IE.den, BE.den, Env.join]; omega, by simp [Sub.nenv, assoc, CV.I, CV.B, upsI, upsB, Seg.I, Seg.B, SC.I, SC.B, IE.den, BE.den, Env.join]; omega⟩, ⟨⟨o1, o2, o3, o4⟩, ?_⟩, ⟨?_, ?_⟩⟩
        · refine Eq.trans (b := notes r 8) (by exact notes_same rfl fun i _ => by simp [noteAt, Sub.nenv, assoc, CV.I, CV.B, upsI, upsB, Seg.I, Seg.B, SC.I, SC.B, IE.den, BE.den, Env.join]) ?_
          show notes r 8 = ((notes r 0).take (r.iv 16 + 1).toNat).filter (fun n => !keepT (r.iv 4) n)
          rw [htk, List.filter_append, n1]
          simp [hk]
        · simp [OkSl, Sub.nenv, assoc, CV.I, CV.B, upsI, upsB, Seg.I, Seg.B, SC.I, SC.B, IE.den, BE.den, Env.join]
          omega
        · refine (notes_push (ρ := r) (b := 12) (x := noteAt r 3 (r.iv 16).toNat) p2 rfl (fun i hi => ?_) ?_).trans ?_
          · have : ¬ (r.iv 13).toNat = i := by simp only [Nat.reduceAdd] at hi; omega
            simp [noteAt, Sub.nenv, assoc, CV.I, CV.B, upsI, upsB, Seg.I, Seg.B, SC.I, SC.B, IE.den, BE.den, Env.join, this]
          · simp [noteAt, Sub.nenv, assoc, CV.I, CV.B, upsI, upsB, Seg.I, Seg.B, SC.I, SC.B, IE.den, BE.den, Env.join]
          · show notes r 12 ++ _ = ((notes r 0).take (r.iv 16 + 1).toNat).filter (keepT (r.iv 4))
            rw [htk, List.filter_append, n2]
            simp [hk]
      · show (r.iv 1 - (r.iv 16 + 1)).toNat < (r.iv 1 - r.iv 16).toNat
        omega
    · have hk : keepT (r.iv 4) (noteAt r 3 (r.iv 16).toNat) = false := by
        refine decide_eq_false fun h => Bool.false_ne_true (hne.symm.trans ?_)
        simp only [D.le, D.lef, D.lt, D.ltf, D.eq, D.eqf, D.not, D.notf, D.and, D.andf, D.or, D.orf, D.inr, D.var, D.lit, D.cellB, D.beq, D.beqf, D.litI, D.varI, D.add, D.sub, D.mul, D.min, D.max, D.cellI, D.i64min, D.i64max]; exact h
      refine Sat.ob ?_ (Sat.ob (decide_eq_true o2) (Sat.ob (decide_eq_true o3) (Sat.ob (decide_eq_true o4) (Sat.ob (nilOb hat.2.1.2.1.1) (Sat.new fun e3 hf => Sat.ob ?_ (Sat.back rfl ⟨?_, ?_⟩))))))
      · simp only [D.le, D.lef, D.lt, D.ltf, D.eq, D.eqf, D.not, D.notf, D.and, D.andf, D.or, D.orf, D.inr, D.var, D.lit, D.cellB, D.beq, D.beqf, D.litI, D.varI, D.add, D.sub, D.mul, D.min, D.max, D.cellI, D.i64min, D.i64max]; omega
      · simp only [D.le, D.lef, D.lt, D.ltf, D.eq, D.eqf, D.not, D.notf, D.and, D.andf, D.or, D.orf, D.inr, D.var, D.lit, D.cellB, D.beq, D.beqf, D.litI, D.varI, D.add, D.sub, D.mul, D.min, D.max, D.cellI, D.i64min, D.i64max]; simp [Env.join]; omega
      · have hf := hf _ (List.mem_singleton.2 rfl)
        simp only [D.be, D.le, D.lef, D.lt, D.ltf, D.eq, D.eqf, D.not, D.notf, D.and, D.andf, D.or, D.orf, D.inr, D.var, D.lit, D.cellB, D.beq, D.beqf, D.litI, D.varI, D.add, D.sub, D.mul, D.min, D.max, D.cellI, D.i64min, D.i64max] at hf
        simp [Env.join] at hf
        refine ⟨⟨by simp [Sub.nenv, assoc, CV.I, CV.B, upsI, upsB, Seg.I, Seg.B, SC.I, SC.B, IE.den, BE.den, Env.join]; omega, by simp [Sub.nenv, assoc, CV.I, CV.B, upsI, upsB, Seg.I, Seg.B, SC.I, SC.B, IE.den, BE.den, Env.join]; omega⟩, ⟨?_, ?_⟩, ⟨⟨p1, p2, p3, p4⟩, ?_⟩⟩
        · simp [OkSl, Sub.nenv, assoc, CV.I, CV.B, upsI, upsB, Seg.I, Seg.B, SC.I, SC.B, IE.den, BE.den, Env.join]
          omega
        · refine (notes_push (ρ := r) (b := 8) (x := noteAt r 3 (r.iv 16).toNat) o2 rfl (fun i hi => ?_) ?_).trans ?_
          · have : ¬ (r.iv 9).toNat = i := by simp only [Nat.reduceAdd] at hi; omega
            simp [noteAt, Sub.nenv, assoc, CV.I, CV.B, upsI, upsB, Seg.I, Seg.B, SC.I, SC.B, IE.den, BE.den, Env.join, this]
          · simp [noteAt, Sub.nenv, assoc, CV.I, CV.B, upsI, upsB, Seg.I, Seg.B, SC.I, SC.B, IE.den, BE.den, Env.join]
          · show notes r 8 ++ _ = ((notes r 0).take (r.iv 16 + 1).toNat).filter (fun n => !keepT (r.iv 4) n)
            rw [htk, List.filter_append, n1]
            simp [hk]
        · refine Eq.trans (b := notes r 12) (by exact notes_same rfl fun i _ => by simp [noteAt, Sub.nenv, assoc, CV.I, CV.B, upsI, upsB, Seg.I, Seg.B, SC.I, SC.B, IE.den, BE.den, Env.join]) ?_
          show notes r 12 = ((notes r 0).take (r.iv 16 + 1).toNat).filter (keepT (r.iv 4))
          rw [htk, List.filter_append, n2]
          simp [hk]
      · show (r.iv 1 - (r.iv 16 + 1)).toNat < (r.iv 1 - r.iv 16).toNat
        omega
  · replace hpre : epochsPre (ρ.join 8 e) := hpre
    replace hI : epochsInv (ρ.join 8 e) := hI
    replace hge : ¬ (ρ.join 8 e).iv 16 < (ρ.join 8 e).iv 1 := of_decide_eq_false hge
    generalize ρ.join 8 e = q at *
    obtain ⟨⟨i1, i2⟩, ⟨o, n1⟩, ⟨p, n2⟩⟩ := hI
    rw [notes_full _ _ (by simp only [Nat.zero_add]; omega)] at n1 n2
    refine Sat.fin ⟨o, ?_, p, ?_⟩
    · exact Eq.trans (b := notes q 8) (by exact notes_same rfl fun i _ => by simp [noteAt, Sub.nenv, assoc, CV.I, CV.B, upsI, upsB, Seg.I, Seg.B, SC.I, SC.B, IE.den, BE.den, Env.join]) n1
    · exact Eq.trans (b := notes q 12) (by exact notes_same rfl fun i _ => by simp [noteAt, Sub.nenv, assoc, CV.I, CV.B, upsI, upsB, Seg.I, Seg.B, SC.I, SC.B, IE.den, BE.den, Env.join]) n2
theorem epochs_con {P : Program} (hT : TabOK P tab) : ConOK P epochsCon epochsPre epochsPost :=
  con_ok hT (E := epochsE) (cs := []) rfl (fun k pre post h => by cases h) schedOK rfl epochs_run (by kernel_rfl) (fun ρ _ p hp => by cases hp) epochs_sat
end Go.Proofs.Ytniacabgcjccdaa
