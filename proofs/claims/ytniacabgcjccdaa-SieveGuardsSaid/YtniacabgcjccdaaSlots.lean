/- 'Slots': what it leaves -/
import Derived.Test.YtniacabgcjccdaaSpec
import Derived.Test.YtniacabgcjccdaaWords
set_option linter.unusedSimpArgs false
set_option linter.unusedVariables false
namespace Go.Proofs.Ytniacabgcjccdaa
open Go.Rex
noncomputable def slotsE : Ex := { sched := sched, loops := [L21, L23], fin := slotsCon }
def slotsOut : Out :=
  .ob (.or (.not (.var 0)) (.ieq (.var 1) (.lit 0))) <|
   .ob (.ile (.lit 0) (.var 1)) <|
   .loop 8 { lo := 8, lob := 3, iv := [(16, (.lit 0)), (14, (.lit 0)), (13, (.lit 0)), (10, (.lit 0)), (9, (.lit 0))], bv := [(12, (.lit true)), (8, (.lit true))], nb := [4, 3] } <|
   .br (.ilt (.var 16) (.var 1))
   (.ob (.not (.var 0)) <|
    .ob (.ile (.lit 0) (.var 16)) <|
    .ob (.or (.not (.var 4)) (.ieq (.var 5) (.lit 0))) <|
    .ob (.ile (.lit 0) (.var 5)) <|
    .loop 17 { lo := 17, lob := 7, iv := [(17, (.lit 0))] } <|
    .br (.ilt (.var 17) (.var 5))
    (.ob (.not (.var 4)) <|
     .ob (.ile (.lit 0) (.var 17)) <|
     .br (.ieq (.cell 7 (.var 17) (.lit 0) 0) (.cell 3 (.var 16) (.lit 0) 0))
     (.ob (.ile (.mul (.add (.var 13) (.lit 1)) (.lit 56)) (.lit 140737488355328)) <|
      .ob (.ile (.lit 0) (.var 13)) <|
      .ob (.ile (.var 13) (.var 14)) <|
      .ob (.ile (.var 14) (.lit 9223372036854775807)) <|
      .ob (.or (.not (.var 12)) (.ieq (.var 13) (.lit 0))) <|
      .new 18 [.be (.and (.ile (.add (.var 13) (.lit 1)) (.var 18)) (.ile (.var 18) (.lit 9223372036854775807)))] <|
      .ob (.inr .i64 (.add (.var 16) (.lit 1))) <|
      .back 1 { lo := 8, lob := 3, iv := [(16, (.add (.var 16) (.lit 1))), (14, (.var 18)), (13, (.add (.var 13) (.lit 1))), (10, (.var 10)), (9, (.var 9))], bv := [(12, (.lit false)), (8, (.var 8))], ct := [(15, .up { r := 15, n1 := (.add (.var 13) (.lit 1)), s1 := 7, ks := [.int .i64, .int .i64, .int .i64, .int .i64, .bool, .int .i64, .int .i64] } 0 [⟨0, (.var 13), (.lit 0), 0, .int .i64 (.cell 3 (.var 16) (.lit 0) 0)⟩, ⟨0, (.var 13), (.lit 0), 1, .int .i64 (.cell 3 (.var 16) (.lit 0) 1)⟩, ⟨0, (.var 13), (.lit 0), 2, .int .i64 (.cell 3 (.var 16) (.lit 0) 2)⟩, ⟨0, (.var 13), (.lit 0), 3, .int .i64 (.cell 3 (.var 16) (.lit 0) 3)⟩, ⟨0, (.var 13), (.lit 0), 4, .bool (.cell 3 (.var 16) (.lit 0) 4)⟩, ⟨0, (.var 13), (.lit 0), 5, .int .i64 (.cell 3 (.var 16) (.lit 0) 5)⟩, ⟨0, (.var 13), (.lit 0), 6, .int .i64 (.cell 3 (.var 16) (.lit 0) 6)⟩] (.lit 0)), (11, .up { r := 11, n1 := (.var 9), s1 := 7, ks := [.int .i64, .int .i64, .int .i64, .int .i64, .bool, .int .i64, .int .i64] } 0 [] (.lit 0))], bk := [(4, { blk := 9, i1 := (.lit 0), s1 := 7 }), (3, { blk := 3, i1 := (.lit 0), s1 := 7 })] })
     (.ob (.inr .i64 (.add (.var 17) (.lit 1))) <|
      .back 0 { lo := 17, lob := 7, iv := [(17, (.add (.var 17) (.lit 1)))] }))
    (.ob (.ile (.mul (.add (.var 9) (.lit 1)) (.lit 56)) (.lit 140737488355328)) <|
     .ob (.ile (.lit 0) (.var 9)) <|
     .ob (.ile (.var 9) (.var 10)) <|
     .ob (.ile (.var 10) (.lit 9223372036854775807)) <|
     .ob (.or (.not (.var 8)) (.ieq (.var 9) (.lit 0))) <|
     .new 18 [.be (.and (.ile (.add (.var 9) (.lit 1)) (.var 18)) (.ile (.var 18) (.lit 9223372036854775807)))] <|
     .ob (.inr .i64 (.add (.var 16) (.lit 1))) <|
     .back 1 { lo := 8, lob := 3, iv := [(16, (.add (.var 16) (.lit 1))), (14, (.var 14)), (13, (.var 13)), (10, (.var 18)), (9, (.add (.var 9) (.lit 1)))], bv := [(12, (.var 12)), (8, (.lit false))], ct := [(15, .up { r := 15, n1 := (.var 13), s1 := 7, ks := [.int .i64, .int .i64, .int .i64, .int .i64, .bool, .int .i64, .int .i64] } 0 [] (.lit 0)), (11, .up { r := 11, n1 := (.add (.var 9) (.lit 1)), s1 := 7, ks := [.int .i64, .int .i64, .int .i64, .int .i64, .bool, .int .i64, .int .i64] } 0 [⟨0, (.var 9), (.lit 0), 0, .int .i64 (.cell 3 (.var 16) (.lit 0) 0)⟩, ⟨0, (.var 9), (.lit 0), 1, .int .i64 (.cell 3 (.var 16) (.lit 0) 1)⟩, ⟨0, (.var 9), (.lit 0), 2, .int .i64 (.cell 3 (.var 16) (.lit 0) 2)⟩, ⟨0, (.var 9), (.lit 0), 3, .int .i64 (.cell 3 (.var 16) (.lit 0) 3)⟩, ⟨0, (.var 9), (.lit 0), 4, .bool (.cell 3 (.var 16) (.lit 0) 4)⟩, ⟨0, (.var 9), (.lit 0), 5, .int .i64 (.cell 3 (.var 16) (.lit 0) 5)⟩, ⟨0, (.var 9), (.lit 0), 6, .int .i64 (.cell 3 (.var 16) (.lit 0) 6)⟩] (.lit 0))], bk := [(4, { blk := 4, i1 := (.lit 0), s1 := 7 }), (3, { blk := 8, i1 := (.lit 0), s1 := 7 })] }))
   (.fin { lo := 8, lob := 2, iv := [(14, (.var 14)), (13, (.var 13)), (10, (.var 10)), (9, (.var 9))], bv := [(12, (.var 12)), (8, (.var 8))], ct := [(15, .up { r := 15, n1 := (.var 13), s1 := 7, ks := [.int .i64, .int .i64, .int .i64, .int .i64, .bool, .int .i64, .int .i64] } 0 [] (.lit 0)), (11, .up { r := 11, n1 := (.var 9), s1 := 7, ks := [.int .i64, .int .i64, .int .i64, .int .i64, .bool, .int .i64, .int .i64] } 0 [] (.lit 0))], bk := [(3, { blk := 4, i1 := (.lit 0), s1 := 7 }), (2, { blk := 3, i1 := (.lit 0), s1 := 7 })] })
theorem slots_run : exec tab slotsE 4000 [] (cfg0 11 8 [] [] slotsCon.hp slotsCon.args) = slotsOut := by kernel_rfl
def slotsHit (ρ : Env) (i j : Nat) : Prop := ρ.ic 7 j 0 0 = ρ.ic 3 i 0 0
def slotsPre (ρ : Env) : Prop := OkSl ρ 0 ∧ ρ.iv 1 ≤ 1000000 ∧ OkSl ρ 4 ∧ ρ.iv 5 ≤ 1000000
def slotsPost (ρ : Env) : Prop := OkSl ρ 8 ∧ notes ρ 8 = (notes ρ 0).filter (fun n => !keepS (annI ρ 4) n) ∧ OkSl ρ 12 ∧ notes ρ 12 = (notes ρ 0).filter (keepS (annI ρ 4))
def slotsInv (ρ : Env) : Prop := (0 ≤ ρ.iv 16 ∧ ρ.iv 16 ≤ ρ.iv 1) ∧ (OkSl ρ 8 ∧ notes ρ 8 = ((notes ρ 0).take (ρ.iv 16).toNat).filter (fun n => !keepS (annI ρ 4) n)) ∧ OkSl ρ 12 ∧ notes ρ 12 = ((notes ρ 0).take (ρ.iv 16).toNat).filter (keepS (annI ρ 4))
/-- the inner loop: none of the announcements so far is the note's -/
def slotsIn (ρ : Env) : Prop := (0 ≤ ρ.iv 17 ∧ ρ.iv 17 ≤ ρ.iv 5) ∧ ∀ j : Nat, (j : Int) < ρ.iv 17 → ¬ slotsHit ρ (ρ.iv 16).toNat j
/-- inside the outer loop -/
def slotsAt (ρ : Env) : Prop := slotsPre ρ ∧ slotsInv ρ ∧ ρ.iv 16 < ρ.iv 1
theorem slotsAt.lens {ρ : Env} (h : slotsAt ρ) : ρ.iv 9 ≤ ρ.iv 16 ∧ ρ.iv 13 ≤ ρ.iv 16 := by
  obtain ⟨⟨a1, a5, b1, b5⟩, ⟨⟨i1, i2⟩, ⟨⟨o1, o2, o3, o4⟩, n1⟩, ⟨⟨p1, p2, p3, p4⟩, n2⟩⟩, hlt⟩ := h
  have l1 : (notes ρ 8).length ≤ (ρ.iv 16).toNat := by
    rw [n1]; refine Nat.le_trans (List.length_filter_le _ _) ?_; rw [List.length_take]; omega
  have l2 : (notes ρ 12).length ≤ (ρ.iv 16).toNat := by
    rw [n2]; refine Nat.le_trans (List.length_filter_le _ _) ?_; rw [List.length_take]; omega
  rw [notes_length] at l1 l2
  simp only [Nat.reduceAdd] at *
  omega
theorem slotsAt.take {ρ : Env} (h : slotsAt ρ) : (notes ρ 0).take (ρ.iv 16 + 1).toNat = (notes ρ 0).take (ρ.iv 16).toNat ++ [noteAt ρ 3 (ρ.iv 16).toNat] := by
  obtain ⟨_, ⟨⟨i1, i2⟩, _⟩, hlt⟩ := h
  rw [show (ρ.iv 16 + 1).toNat = (ρ.iv 16).toNat + 1 by omega]
  exact notes_take (b := 0) (by simp only [Nat.zero_add]; omega)
theorem slots_sat (ρ : Env) (hpre : slotsPre ρ.num) : Sat slotsPost [] [] ρ slotsOut := by
  replace hpre : slotsPre ρ := hpre
  unfold slotsOut
  refine Sat.ob (nilOb hpre.1) (Sat.ob (decide_eq_true hpre.1.2.1) (Sat.loop slotsInv (fun r => (r.iv 1 - r.iv 16).toNat) ?_ fun e hI => Sat.br (fun hlt => ?_) (fun hge => ?_)))
  · have h2 := hpre.1.2.1
    simp [slotsInv, OkSl, notes, Sub.nenv, assoc, CV.I, CV.B, upsI, upsB, Seg.I, Seg.B, SC.I, SC.B, IE.den, BE.den, h2]
  · replace hpre : slotsPre (ρ.join 8 e) := hpre
    replace hI : slotsInv (ρ.join 8 e) := hI
    replace hlt : (ρ.join 8 e).iv 16 < (ρ.join 8 e).iv 1 := of_decide_eq_true hlt
    have hat : slotsAt (ρ.join 8 e) := ⟨hpre, hI, hlt⟩
    clear hpre hI hlt
    have hm : ((ρ.join 8 e).num.iv 1 - (ρ.join 8 e).num.iv 16).toNat = ((ρ.join 8 e).iv 1 - (ρ.join 8 e).iv 16).toNat := rfl
    rw [hm]
    clear hm
    generalize ρ.join 8 e = r at *
    have hpre := hat.1
    obtain ⟨⟨i1, i2⟩, -⟩ := hat.2.1
    have hlt := hat.2.2
    obtain ⟨l1, l2⟩ := hat.lens
    refine Sat.ob ?_ (Sat.ob (decide_eq_true i1) (Sat.ob (nilOb hpre.2.2.1) (Sat.ob (decide_eq_true hpre.2.2.1.2.1) (Sat.loop slotsIn (fun r => (r.iv 5 - r.iv 17).toNat) ?_ fun e2 hI2 => Sat.br (fun hlt2 => ?_) (fun hge2 => ?_)))))
    · simp only [D.le, D.lef, D.lt, D.ltf, D.eq, D.eqf, D.not, D.notf, D.and, D.andf, D.or, D.orf, D.inr, D.var, D.lit, D.cellB, D.beq, D.beqf, D.litI, D.varI, D.add, D.sub, D.mul, D.min, D.max, D.cellI, D.i64min, D.i64max]
      cases h : r.bv 0
      · rfl
      · have := hpre.1.1 h
        simp only [Nat.zero_add] at this
        omega
    · refine ⟨⟨Int.le_refl 0, hpre.2.2.1.2.1⟩, fun j hj => ?_⟩
      have : (j : Int) < 0 := hj
      omega
    · replace hI2 : slotsIn (r.join 17 e2) := hI2
      replace hat : slotsAt (r.join 17 e2) := hat
      replace hlt2 : (r.join 17 e2).iv 17 < (r.join 17 e2).iv 5 := of_decide_eq_true hlt2
      rw [show (r.iv 1 - r.iv 16).toNat = ((r.join 17 e2).iv 1 - (r.join 17 e2).iv 16).toNat from rfl]
      rw [show ((r.join 17 e2).num.iv 5 - (r.join 17 e2).num.iv 17).toNat = ((r.join 17 e2).iv 5 - (r.join 17 e2).iv 17).toNat from rfl]
      clear hpre hlt l1 l2 i1 i2
      generalize r.join 17 e2 = q at *
      have hpre := hat.1
      obtain ⟨⟨i1, i2⟩, -⟩ := hat.2.1
      have hlt := hat.2.2
      obtain ⟨l1, l2⟩ := hat.lens
      obtain ⟨⟨j1, j2⟩, j3⟩ := hI2
      refine Sat.ob ?_ (Sat.ob (decide_eq_true j1) (Sat.br (fun heq => ?_) (fun hne => ?_)))
      · simp only [D.le, D.lef, D.lt, D.ltf, D.eq, D.eqf, D.not, D.notf, D.and, D.andf, D.or, D.orf, D.inr, D.var, D.lit, D.cellB, D.beq, D.beqf, D.litI, D.varI, D.add, D.sub, D.mul, D.min, D.max, D.cellI, D.i64min, D.i64max]
        cases h : q.bv 4
        · rfl
        · have := hpre.2.2.1.1 h
          simp only [Nat.reduceAdd] at this
          omega
      · replace heq : slotsHit q (q.iv 16).toNat (q.iv 17).toNat := by simp only [D.le, D.lef, D.lt, D.ltf, D.eq, D.eqf, D.not, D.notf, D.and, D.andf, D.or, D.orf, D.inr, D.var, D.lit, D.cellB, D.beq, D.beqf, D.litI, D.varI, D.add, D.sub, D.mul, D.min, D.max, D.cellI, D.i64min, D.i64max] at heq; exact heq
        have hk : keepS (annI q 4) (noteAt q 3 (q.iv 16).toNat) = true := by
          refine List.any_eq_true.2 ⟨_, List.mem_map.2 ⟨(q.iv 17).toNat, List.mem_range.2 (by simp only [Nat.reduceAdd]; omega), rfl⟩, decide_eq_true heq⟩
        obtain ⟨⟨o1, o2, o3, o4⟩, n1⟩ := hat.2.1.2.1
        obtain ⟨⟨p1, p2, p3, p4⟩, n2⟩ := hat.2.1.2.2
        have htk := hat.take
        obtain ⟨_, a5, _, b5⟩ := hpre
        simp only [Nat.reduceAdd] at *
        refine Sat.ob ?_ (Sat.ob (decide_eq_true p2) (Sat.ob (decide_eq_true p3) (Sat.ob (decide_eq_true p4) (Sat.ob (nilOb hat.2.1.2.2.1) (Sat.new fun e3 hf => Sat.ob ?_ (Sat.back rfl ⟨?_, ?_⟩))))))
        · simp only [D.le, D.lef, D.lt, D.ltf, D.eq, D.eqf, D.not, D.notf, D.and, D.andf, D.or, D.orf, D.inr, D.var, D.lit, D.cellB, D.beq, D.beqf, D.litI, D.varI, D.add, D.sub, D.mul, D.min, D.max, D.cellI, D.i64min, D.i64max]; omega
        · simp only [D.le, D.lef, D.lt, D.ltf, D.eq, D.eqf, D.not, D.notf, D.and, D.andf, D.or, D.orf, D.inr, D.var, D.lit, D.cellB, D.beq, D.beqf, D.litI, D.varI, D.add, D.sub, D.mul, D.min, D.max, D.cellI, D.i64min, D.i64max]; simp [Env.join]; omega
        · have hf := hf _ (List.mem_singleton.2 rfl)
          simp only [D.be, D.le, D.lef, D.lt, D.ltf, D.eq, D.eqf, D.not, D.notf, D.and, D.andf, D.or, D.orf, D.inr, D.var, D.lit, D.cellB, D.beq, D.beqf, D.litI, D.varI, D.add, D.sub, D.mul, D.min, D.max, D.cellI, D.i64min, D.i64max] at hf
          simp [Env.join] at hf
          refine ⟨⟨by simp [Sub.nenv, assoc, CV.I, CV.B, upsI, upsB, Seg.I, Seg.B, SC.I, SC.B, IE.den, BE.den, Env.join]; omega, by simp [Sub.nenv, assoc, CV.I, CV.B, upsI, upsB, Seg.I, Seg.B, SC.I, SC.B, IE.den, BE.den, Env.join]; omega⟩, ⟨⟨o1, o2, o3, o4⟩, ?_⟩, ⟨?_, ?_⟩⟩
          · refine Eq.trans (b := notes q 8) (by exact notes_same rfl fun i _ => by simp [noteAt, Sub.nenv, assoc, CV.I, CV.B, upsI, upsB, Seg.I, Seg.B, SC.I, SC.B, IE.den, BE.den, Env.join]) ?_
            show notes q 8 = ((notes q 0).take (q.iv 16 + 1).toNat).filter (fun n => !keepS (annI q 4) n)
            rw [htk, List.filter_append, n1]
            simp [hk]
          · simp [OkSl, Sub.nenv, assoc, CV.I, CV.B, upsI, upsB, Seg.I, Seg.B, SC.I, SC.B, IE.den, BE.den, Env.join]
            omega
          · refine (notes_push (ρ := q) (b := 12) (x := noteAt q 3 (q.iv 16).toNat) p2 rfl (fun i hi => ?_) ?_).trans ?_
            · have : ¬ (q.iv 13).toNat = i := by simp only [Nat.reduceAdd] at hi; omega
              simp [noteAt, Sub.nenv, assoc, CV.I, CV.B, upsI, upsB, Seg.I, Seg.B, SC.I, SC.B, IE.den, BE.den, Env.join, this]
            · simp [noteAt, Sub.nenv, assoc, CV.I, CV.B, upsI, upsB, Seg.I, Seg.B, SC.I, SC.B, IE.den, BE.den, Env.join]
            · show notes q 12 ++ _ = ((notes q 0).take (q.iv 16 + 1).toNat).filter (keepS (annI q 4))
              rw [htk, List.filter_append, n2]
              simp [hk]
        · show (q.iv 1 - (q.iv 16 + 1)).toNat < (q.iv 1 - q.iv 16).toNat
          omega
      · replace hne : ¬ slotsHit q (q.iv 16).toNat (q.iv 17).toNat := fun h => by
          exact Bool.false_ne_true (hne.symm.trans (by simp only [D.le, D.lef, D.lt, D.ltf, D.eq, D.eqf, D.not, D.notf, D.and, D.andf, D.or, D.orf, D.inr, D.var, D.lit, D.cellB, D.beq, D.beqf, D.litI, D.varI, D.add, D.sub, D.mul, D.min, D.max, D.cellI, D.i64min, D.i64max]; exact h))
        refine Sat.ob ?_ (Sat.back rfl ⟨⟨⟨?_, ?_⟩, fun j hj => ?_⟩, ?_⟩)
        · simp only [D.le, D.lef, D.lt, D.ltf, D.eq, D.eqf, D.not, D.notf, D.and, D.andf, D.or, D.orf, D.inr, D.var, D.lit, D.cellB, D.beq, D.beqf, D.litI, D.varI, D.add, D.sub, D.mul, D.min, D.max, D.cellI, D.i64min, D.i64max]; have := hpre.2.2.2; omega
        · show 0 ≤ q.iv 17 + 1; omega
        · show q.iv 17 + 1 ≤ q.iv 5; omega
        · replace hj : (j : Int) < q.iv 17 + 1 := hj
          show ¬ slotsHit q (q.iv 16).toNat j
          by_cases h : j = (q.iv 17).toNat
          · subst h; exact hne
          · exact j3 j (by omega)
        · show (q.iv 5 - (q.iv 17 + 1)).toNat < (q.iv 5 - q.iv 17).toNat
          omega
    · replace hI2 : slotsIn (r.join 17 e2) := hI2
      replace hat : slotsAt (r.join 17 e2) := hat
      replace hge2 : ¬ (r.join 17 e2).iv 17 < (r.join 17 e2).iv 5 := of_decide_eq_false hge2
      rw [show (r.iv 1 - r.iv 16).toNat = ((r.join 17 e2).iv 1 - (r.join 17 e2).iv 16).toNat from rfl]
      clear hpre hlt l1 l2 i1 i2
      generalize r.join 17 e2 = q at *
      have hpre := hat.1
      obtain ⟨⟨i1, i2⟩, -⟩ := hat.2.1
      have hlt := hat.2.2
      obtain ⟨l1, l2⟩ := hat.lens
      obtain ⟨⟨j1, j2⟩, j3⟩ := hI2
      have hk : keepS (annI q 4) (noteAt q 3 (q.iv 16).toNat) = false := by
        refine List.any_eq_false.2 fun x hx => ?_
        obtain ⟨j, hj, rfl⟩ := List.mem_map.1 hx
        have hj := List.mem_range.1 hj
        simp only [Nat.reduceAdd] at hj
        exact ne_true_of_eq_false (decide_eq_false (j3 j (by omega)))
      obtain ⟨⟨o1, o2, o3, o4⟩, n1⟩ := hat.2.1.2.1
      obtain ⟨⟨p1, p2, p3, p4⟩, n2⟩ := hat.2.1.2.2
      have htk := hat.take
      obtain ⟨_, a5, _, b5⟩ := hpre
      simp only [Nat.reduceAdd] at *
      refine Sat.ob ?_ (Sat.ob (decide_eq_true o2) (Sat.ob (decide_eq_true o3) (Sat.ob (decide_eq_true o4) (Sat.ob (nilOb hat.2.1.2.1.1) (Sat.new fun e3 hf => Sat.ob ?_ (Sat.back rfl ⟨?_, ?_⟩))))))
      · simp only [D.le, D.lef, D.lt, D.ltf, D.eq, D.eqf, D.not, D.notf, D.and, D.andf, D.or, D.orf, D.inr, D.var, D.lit, D.cellB, D.beq, D.beqf, D.litI, D.varI, D.add, D.sub, D.mul, D.min, D.max, D.cellI, D.i64min, D.i64max]; omega
      · simp only [D.le, D.lef, D.lt, D.ltf, D.eq, D.eqf, D.not, D.notf, D.and, D.andf, D.or, D.orf, D.inr, D.var, D.lit, D.cellB, D.beq, D.beqf, D.litI, D.varI, D.add, D.sub, D.mul, D.min, D.max, D.cellI, D.i64min, D.i64max]; simp [Env.join]; omega
      · have hf := hf _ (List.mem_singleton.2 rfl)
        simp only [D.be, D.le, D.lef, D.lt, D.ltf, D.eq, D.eqf, D.not, D.notf, D.and, D.andf, D.or, D.orf, D.inr, D.var, D.lit, D.cellB, D.beq, D.beqf, D.litI, D.varI, D.add, D.sub, D.mul, D.min, D.max, D.cellI, D.i64min, D.i64max] at hf
        simp [Env.join] at hf
        refine ⟨⟨by simp [Sub.nenv, assoc, CV.I, CV.B, upsI, upsB, Seg.I, Seg.B, SC.I, SC.B, IE.den, BE.den, Env.join]; omega, by simp [Sub.nenv, assoc, CV.I, CV.B, upsI, upsB, Seg.I, Seg.B, SC.I, SC.B, IE.den, BE.den, Env.join]; omega⟩, ⟨?_, ?_⟩, ⟨⟨p1, p2, p3, p4⟩, ?_⟩⟩
        · simp [OkSl, Sub.nenv, assoc, CV.I, CV.B, upsI, upsB, Seg.I, Seg.B, SC.I, SC.B, IE.den, BE.den, Env.join]
          omega
        · refine (notes_push (ρ := q) (b := 8) (x := noteAt q 3 (q.iv 16).toNat) o2 rfl (fun i hi => ?_) ?_).trans ?_
          · have : ¬ (q.iv 9).toNat = i := by simp only [Nat.reduceAdd] at hi; omega
            simp [noteAt, Sub.nenv, assoc, CV.I, CV.B, upsI, upsB, Seg.I, Seg.B, SC.I, SC.B, IE.den, BE.den, Env.join, this]
          · simp [noteAt, Sub.nenv, assoc, CV.I, CV.B, upsI, upsB, Seg.I, Seg.B, SC.I, SC.B, IE.den, BE.den, Env.join]
          · show notes q 8 ++ _ = ((notes q 0).take (q.iv 16 + 1).toNat).filter (fun n => !keepS (annI q 4) n)
            rw [htk, List.filter_append, n1]
            simp [hk]
        · refine Eq.trans (b := notes q 12) (by exact notes_same rfl fun i _ => by simp [noteAt, Sub.nenv, assoc, CV.I, CV.B, upsI, upsB, Seg.I, Seg.B, SC.I, SC.B, IE.den, BE.den, Env.join]) ?_
          show notes q 12 = ((notes q 0).take (q.iv 16 + 1).toNat).filter (keepS (annI q 4))
          rw [htk, List.filter_append, n2]
          simp [hk]
      · show (q.iv 1 - (q.iv 16 + 1)).toNat < (q.iv 1 - q.iv 16).toNat
        omega
  · replace hpre : slotsPre (ρ.join 8 e) := hpre
    replace hI : slotsInv (ρ.join 8 e) := hI
    replace hge : ¬ (ρ.join 8 e).iv 16 < (ρ.join 8 e).iv 1 := of_decide_eq_false hge
    generalize ρ.join 8 e = q at *
    obtain ⟨⟨i1, i2⟩, ⟨o, n1⟩, ⟨p, n2⟩⟩ := hI
    rw [notes_full _ _ (by simp only [Nat.zero_add]; omega)] at n1 n2
    refine Sat.fin ⟨o, ?_, p, ?_⟩
    · exact Eq.trans (b := notes q 8) (by exact notes_same rfl fun i _ => by simp [noteAt, Sub.nenv, assoc, CV.I, CV.B, upsI, upsB, Seg.I, Seg.B, SC.I, SC.B, IE.den, BE.den, Env.join]) n1
    · exact Eq.trans (b := notes q 12) (by exact notes_same rfl fun i _ => by simp [noteAt, Sub.nenv, assoc, CV.I, CV.B, upsI, upsB, Seg.I, Seg.B, SC.I, SC.B, IE.den, BE.den, Env.join]) n2
theorem slots_con {P : Program} (hT : TabOK P tab) : ConOK P slotsCon slotsPre slotsPost :=
  con_ok hT (E := slotsE) (cs := []) rfl (fun k pre post h => by cases h) schedOK rfl slots_run (by kernel_rfl) (fun ρ _ p hp => by cases hp) slots_sat
end Go.Proofs.Ytniacabgcjccdaa
