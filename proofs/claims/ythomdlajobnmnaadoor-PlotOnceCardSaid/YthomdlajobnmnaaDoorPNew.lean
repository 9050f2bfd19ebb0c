/- 'New': what it leaves -/
import Derived.Test.YthomdlajobnmnaaDoorPDo
set_option linter.unusedSimpArgs false
set_option linter.unusedVariables false
namespace Go.Proofs.YthomdlajobnmnaaDoor
open Go.Rex
def knNew : Kn := [(.ilt (.var 0) (.lit 0), false), (.ilt (.lit 1024) (.var 0), false), (.ilt (.var 1) (.lit 0), false), (.ilt (.lit 200) (.var 1), false)]
noncomputable def newE : Ex := { sched := sched, loops := [L13], fin := newCon }
def newOut : Out :=
  .alt
   (.ob (.ile (.lit 0) (.var 1)) <|
    .ob (.ile (.mul (.var 1) (.lit 40)) (.lit 281474976710656)) <|
    .ob (.ile (.var 1) (.lit 9223372036854775807)) <|
    .ob (.ile (.lit 0) (.var 0)) <|
    .ob (.ile (.mul (.var 0) (.lit 416)) (.lit 281474976710656)) <|
    .ob (.ile (.var 0) (.lit 9223372036854775807)) <|
    .loop 2 { lo := 2, lob := 3, iv := [(11, (.lit 0)), (10, (.lit 0)), (8, (.lit 0)), (7, (.lit 0)), (2, (.var 0))], bv := [(12, (.lit true)), (6, (.lit true))], ct := [(5, .up { r := 0, n1 := (.var 0), s1 := 52, n2 := 10, s2 := 5, lo := 2, ks := [.int .i64, .int .i64, .int .i64, .int .i64, .bool], z := true } 1 [] (.lit 0)), (4, .up { r := 0, n1 := (.var 0), s1 := 52, ks := [.int .i64, .bool], z := true } 0 [] (.lit 0)), (3, .up { r := 0, n1 := (.var 1), s1 := 5, ks := [.int .i64, .int .i64, .int .i64, .int .i64, .bool], z := true } 0 [] (.lit 0))], nb := [4, 3, 4, 3] } <|
    .br (.ile (.lit 1) (.var 2))
    (.ob (.ile (.mul (.add (.var 7) (.lit 1)) (.lit 8)) (.lit 140737488355328)) <|
     .ob (.ile (.lit 0) (.var 7)) <|
     .ob (.ile (.var 7) (.var 8)) <|
     .ob (.ile (.var 8) (.lit 9223372036854775807)) <|
     .ob (.or (.not (.var 6)) (.ieq (.var 7) (.lit 0))) <|
     .new 13 [.be (.and (.ile (.add (.var 7) (.lit 1)) (.var 13)) (.ile (.var 13) (.lit 9223372036854775807)))] <|
     .ob (.inr .i64 (.sub (.var 2) (.lit 1))) <|
     .back 0 { lo := 2, lob := 3, iv := [(11, (.var 11)), (10, (.var 10)), (8, (.var 13)), (7, (.add (.var 7) (.lit 1))), (2, (.sub (.var 2) (.lit 1)))], bv := [(12, (.var 12)), (6, (.lit false))], ct := [(9, .up { r := 9, n1 := (.add (.var 7) (.lit 1)), s1 := 1, ks := [.int .i64] } 0 [⟨0, (.var 7), (.lit 0), 0, .int .i64 (.var 2)⟩] (.lit 0)), (5, .up { r := 5, n1 := (.var 0), s1 := 52, n2 := 10, s2 := 5, lo := 2, ks := [.int .i64, .int .i64, .int .i64, .int .i64, .bool] } 1 [] (.lit 0)), (4, .up { r := 4, n1 := (.var 0), s1 := 52, ks := [.int .i64, .bool] } 0 [] (.lit 0)), (3, .up { r := 3, n1 := (.var 1), s1 := 5, ks := [.int .i64, .int .i64, .int .i64, .int .i64, .bool] } 0 [] (.lit 0))], bk := [(4, { blk := 4 }), (3, { blk := 6, i1 := (.lit 0), s1 := 1 })] })
    (.fin { lo := 2, lob := 0, iv := [(6, (.var 11)), (5, (.var 10)), (4, (.var 8)), (3, (.var 7))], bv := [(7, (.var 12)), (2, (.var 6))], ct := [(11, .up { r := 9, n1 := (.var 7), s1 := 1, ks := [.int .i64] } 0 [] (.lit 0)), (10, .up { r := 5, n1 := (.var 0), s1 := 52, n2 := 10, s2 := 5, lo := 2, ks := [.int .i64, .int .i64, .int .i64, .int .i64, .bool] } 1 [] (.lit 0)), (9, .up { r := 4, n1 := (.var 0), s1 := 52, ks := [.int .i64, .bool] } 0 [] (.lit 0)), (8, .up { r := 3, n1 := (.var 1), s1 := 5, ks := [.int .i64, .int .i64, .int .i64, .int .i64, .bool] } 0 [] (.lit 0))], bk := [(4, { blk := 4 }), (3, { blk := 3, i1 := (.lit 0), s1 := 1 }), (2, { blk := 1, i1 := (.lit 0), s1 := 52 }), (1, { blk := 0, i1 := (.lit 0), s1 := 5 }), (0, { blk := 2 })] }))
   (.ob (.ile (.lit 0) (.var 0)) <|
    .ob (.ile (.mul (.var 0) (.lit 416)) (.lit 281474976710656)) <|
    .ob (.ile (.var 0) (.lit 9223372036854775807)) <|
    .ob (.ile (.lit 0) (.var 1)) <|
    .ob (.ile (.mul (.var 1) (.lit 40)) (.lit 281474976710656)) <|
    .ob (.ile (.var 1) (.lit 9223372036854775807)) <|
    .loop 2 { lo := 2, lob := 3, iv := [(11, (.lit 0)), (10, (.lit 0)), (8, (.lit 0)), (7, (.lit 0)), (2, (.var 0))], bv := [(12, (.lit true)), (6, (.lit true))], ct := [(3, .up { r := 0, n1 := (.var 1), s1 := 5, ks := [.int .i64, .int .i64, .int .i64, .int .i64, .bool], z := true } 0 [] (.lit 0)), (5, .up { r := 0, n1 := (.var 0), s1 := 52, n2 := 10, s2 := 5, lo := 2, ks := [.int .i64, .int .i64, .int .i64, .int .i64, .bool], z := true } 1 [] (.lit 0)), (4, .up { r := 0, n1 := (.var 0), s1 := 52, ks := [.int .i64, .bool], z := true } 0 [] (.lit 0))], nb := [4, 3, 4, 3] } <|
    .br (.ile (.lit 1) (.var 2))
    (.ob (.ile (.mul (.add (.var 7) (.lit 1)) (.lit 8)) (.lit 140737488355328)) <|
     .ob (.ile (.lit 0) (.var 7)) <|
     .ob (.ile (.var 7) (.var 8)) <|
     .ob (.ile (.var 8) (.lit 9223372036854775807)) <|
     .ob (.or (.not (.var 6)) (.ieq (.var 7) (.lit 0))) <|
     .new 13 [.be (.and (.ile (.add (.var 7) (.lit 1)) (.var 13)) (.ile (.var 13) (.lit 9223372036854775807)))] <|
     .ob (.inr .i64 (.sub (.var 2) (.lit 1))) <|
     .back 0 { lo := 2, lob := 3, iv := [(11, (.var 11)), (10, (.var 10)), (8, (.var 13)), (7, (.add (.var 7) (.lit 1))), (2, (.sub (.var 2) (.lit 1)))], bv := [(12, (.var 12)), (6, (.lit false))], ct := [(9, .up { r := 9, n1 := (.add (.var 7) (.lit 1)), s1 := 1, ks := [.int .i64] } 0 [⟨0, (.var 7), (.lit 0), 0, .int .i64 (.var 2)⟩] (.lit 0)), (3, .up { r := 3, n1 := (.var 1), s1 := 5, ks := [.int .i64, .int .i64, .int .i64, .int .i64, .bool] } 0 [] (.lit 0)), (5, .up { r := 5, n1 := (.var 0), s1 := 52, n2 := 10, s2 := 5, lo := 2, ks := [.int .i64, .int .i64, .int .i64, .int .i64, .bool] } 1 [] (.lit 0)), (4, .up { r := 4, n1 := (.var 0), s1 := 52, ks := [.int .i64, .bool] } 0 [] (.lit 0))], bk := [(4, { blk := 4 }), (3, { blk := 6, i1 := (.lit 0), s1 := 1 })] })
    (.fin { lo := 2, lob := 0, iv := [(6, (.var 11)), (5, (.var 10)), (4, (.var 8)), (3, (.var 7))], bv := [(7, (.var 12)), (2, (.var 6))], ct := [(11, .up { r := 9, n1 := (.var 7), s1 := 1, ks := [.int .i64] } 0 [] (.lit 0)), (10, .up { r := 5, n1 := (.var 0), s1 := 52, n2 := 10, s2 := 5, lo := 2, ks := [.int .i64, .int .i64, .int .i64, .int .i64, .bool] } 1 [] (.lit 0)), (9, .up { r := 4, n1 := (.var 0), s1 := 52, ks := [.int .i64, .bool] } 0 [] (.lit 0)), (8, .up { r := 3, n1 := (.var 1), s1 := 5, ks := [.int .i64, .int .i64, .int .i64, .int .i64, .bool] } 0 [] (.lit 0))], bk := [(4, { blk := 4 }), (3, { blk := 3, i1 := (.lit 0), s1 := 1 }), (2, { blk := 0, i1 := (.lit 0), s1 := 52 }), (1, { blk := 1, i1 := (.lit 0), s1 := 5 }), (0, { blk := 2 })] }))
theorem new_run : exec tab newE 8000 [] (cfg0 13 2 knNew [] newCon.hp newCon.args) = newOut := by kernel_rfl
def newPre (ρ : Env) : Prop := (0 ≤ ρ.iv 0 ∧ ρ.iv 0 ≤ 1024) ∧ 0 ≤ ρ.iv 1 ∧ ρ.iv 1 ≤ 200
def newPost (ρ : Env) : Prop := OkSl ρ 2 ∧ ∃ p : PS, psRd ρ (ρ.iv 1) (ρ.iv 0) 2 = p ∧ p.nb = ρ.iv 1 ∧ p.ns = ρ.iv 0 ∧ p.nf = ρ.iv 0 ∧ p.steps = 0 ∧ p.made = 0 ∧ p.good = true ∧ (∀ i, p.bd i = Wd.zero) ∧ (∀ i, p.gen i = 0) ∧ (∀ i, p.used i = false) ∧ (∀ i k, p.cell i k = Wd.zero) ∧ ∀ i : Nat, (i : Int) < ρ.iv 0 → p.fr i = ρ.iv 0 - i
/-- ahead of a round: the numbers from n down to the next one are free -/
def newInv (ρ : Env) : Prop := (0 ≤ ρ.iv 2 ∧ ρ.iv 2 ≤ ρ.iv 0) ∧ OkSl ρ 6 ∧ ρ.iv 7 = ρ.iv 0 - ρ.iv 2 ∧ ρ.iv 10 = 0 ∧ ρ.iv 11 = 0 ∧ ρ.bv 12 = true ∧ (∀ i, mkW (ρ.ic 3 i 0) (ρ.bc 3 i 0) = Wd.zero) ∧ (∀ i, ρ.ic 4 i 0 0 = 0 ∧ ρ.bc 4 i 0 1 = false) ∧ (∀ i k, mkW (ρ.ic 5 i k) (ρ.bc 5 i k) = Wd.zero) ∧ ∀ i : Nat, (i : Int) < ρ.iv 7 → ρ.ic 9 i 0 0 = ρ.iv 0 - i
theorem new_loop {q : Env} (hp : newPre q) {σ : Sub} {k : Out} (h0 : newInv (σ.nenv q)) (hk : ∀ r, newPre r → newInv r → ∀ Γ, Γ = (fun ρ' : Env => newInv ρ' ∧ ρ'.iv 2 + 1 ≤ r.iv 2 ∧ 0 ≤ ρ'.iv 2) → Sat newPost [] [fun ρ' => newInv ρ' ∧ (ρ'.iv 2).toNat < (r.num.iv 2).toNat] r k) : Sat newPost [] [] q (.loop 2 σ k) :=
  Sat.loopK newInv (fun r => (r.iv 2).toNat) newPre h0 (fun _ => hp) fun r hp hI => hk r hp hI _ rfl
set_option maxHeartbeats 1000000 in
theorem new_sat (q : Env) (hpre : newPre q.num) : Sat newPost [] [] q newOut := by
  replace hpre : newPre q := hpre
  obtain ⟨⟨a1, a2⟩, a3, a4⟩ := id hpre
  unfold newOut
  refine Sat.alt ?_ ?_
  all_goals
    refine Sat.ob (by simp only [D.le, D.lef, D.lt, D.ltf, D.eq, D.eqf, D.not, D.notf, D.and, D.andf, D.or, D.orf, D.inr, D.var, D.lit, D.cellB, D.beq, D.beqf, D.litI, D.varI, D.add, D.sub, D.mul, D.min, D.max, D.cellI, D.i64min, D.i64max, Int.toNat_zero]; omega) (Sat.ob (by simp only [D.le, D.lef, D.lt, D.ltf, D.eq, D.eqf, D.not, D.notf, D.and, D.andf, D.or, D.orf, D.inr, D.var, D.lit, D.cellB, D.beq, D.beqf, D.litI, D.varI, D.add, D.sub, D.mul, D.min, D.max, D.cellI, D.i64min, D.i64max, Int.toNat_zero]; omega) (Sat.ob (by simp only [D.le, D.lef, D.lt, D.ltf, D.eq, D.eqf, D.not, D.notf, D.and, D.andf, D.or, D.orf, D.inr, D.var, D.lit, D.cellB, D.beq, D.beqf, D.litI, D.varI, D.add, D.sub, D.mul, D.min, D.max, D.cellI, D.i64min, D.i64max, Int.toNat_zero]; omega) (Sat.ob (by simp only [D.le, D.lef, D.lt, D.ltf, D.eq, D.eqf, D.not, D.notf, D.and, D.andf, D.or, D.orf, D.inr, D.var, D.lit, D.cellB, D.beq, D.beqf, D.litI, D.varI, D.add, D.sub, D.mul, D.min, D.max, D.cellI, D.i64min, D.i64max, Int.toNat_zero]; omega) (Sat.ob (by simp only [D.le, D.lef, D.lt, D.ltf, D.eq, D.eqf, D.not, D.notf, D.and, D.andf, D.or, D.orf, D.inr, D.var, D.lit, D.cellB, D.beq, D.beqf, D.litI, D.varI, D.add, D.sub, D.mul, D.min, D.max, D.cellI, D.i64min, D.i64max, Int.toNat_zero]; omega) (Sat.ob (by simp only [D.le, D.lef, D.lt, D.ltf, D.eq, D.eqf, D.not, D.notf, D.and, D.andf, D.or, D.orf, D.inr, D.var, D.lit, D.cellB, D.beq, D.beqf, D.litI, D.varI, D.add, D.sub, D.mul, D.min, D.max, D.cellI, D.i64min, D.i64max, Int.toNat_zero]; omega) (new_loop hpre ?_ fun r hp hI _ _ => ?_))))))
    · refine ⟨⟨a1, Int.le_refl _⟩, ⟨fun _ => rfl, Int.le_refl 0, Int.le_refl 0, by show (0 : Int) ≤ _; decide⟩, ?_, rfl, rfl, rfl, fun i => ?_, fun i => ?_, fun i k => ?_, fun i hi => ?_⟩
      · show (0 : Int) = q.iv 0 - q.iv 0
        omega
      · simp [mkW, Wd.zero, -Int.pred_toNat, Sub.nenv, assoc, CV.I, CV.B, upsI, upsB, Seg.I, Seg.B, SC.I, SC.B, IE.den, BE.den]
      · simp [-Int.pred_toNat, Sub.nenv, assoc, CV.I, CV.B, upsI, upsB, Seg.I, Seg.B, SC.I, SC.B, IE.den, BE.den]
      · simp [mkW, Wd.zero, -Int.pred_toNat, Sub.nenv, assoc, CV.I, CV.B, upsI, upsB, Seg.I, Seg.B, SC.I, SC.B, IE.den, BE.den]
      · have : (i : Int) < 0 := hi
        omega
    · obtain ⟨⟨a1, a2⟩, a3, a4⟩ := hp
      obtain ⟨⟨i1, i2⟩, ho, i3, i4, i5, i6, i7, i8, i9, i10⟩ := hI
      refine Sat.br (fun hlt => ?_) (fun hge => ?_)
      · simp only [D.le, D.lef, D.lt, D.ltf, D.eq, D.eqf, D.not, D.notf, D.and, D.andf, D.or, D.orf, D.inr, D.var, D.lit, D.cellB, D.beq, D.beqf, D.litI, D.varI, D.add, D.sub, D.mul, D.min, D.max, D.cellI, D.i64min, D.i64max, Int.toNat_zero] at hlt
        refine Sat.ob (by simp only [D.le, D.lef, D.lt, D.ltf, D.eq, D.eqf, D.not, D.notf, D.and, D.andf, D.or, D.orf, D.inr, D.var, D.lit, D.cellB, D.beq, D.beqf, D.litI, D.varI, D.add, D.sub, D.mul, D.min, D.max, D.cellI, D.i64min, D.i64max, Int.toNat_zero]; omega) (Sat.ob (decide_eq_true ho.2.1) (Sat.ob (decide_eq_true ho.2.2.1) (Sat.ob (decide_eq_true ho.2.2.2) (Sat.ob (nilOb ho) (Sat.newB (fun u => newPre u ∧ newInv u ∧ 1 ≤ u.iv 2 ∧ (u.iv 2 - 1).toNat < (r.num.iv 2).toNat) (fun _ => ⟨⟨⟨a1, a2⟩, a3, a4⟩, ⟨⟨i1, i2⟩, ho, i3, i4, i5, i6, i7, i8, i9, i10⟩, hlt, by show (r.iv 2 - 1).toNat < (r.iv 2).toNat; omega⟩) fun u hu hf => ?_)))))
        obtain ⟨⟨⟨a1, a2⟩, a3, a4⟩, ⟨⟨i1, i2⟩, ho, i3, i4, i5, i6, i7, i8, i9, i10⟩, hlt, hm⟩ := hu
        simp only [D.le, D.lef, D.lt, D.ltf, D.eq, D.eqf, D.not, D.notf, D.and, D.andf, D.or, D.orf, D.inr, D.var, D.lit, D.cellB, D.beq, D.beqf, D.litI, D.varI, D.add, D.sub, D.mul, D.min, D.max, D.cellI, D.i64min, D.i64max, Int.toNat_zero] at hf
        have h7 : 0 ≤ u.iv 7 := ho.2.1
        refine Sat.ob (by simp only [D.le, D.lef, D.lt, D.ltf, D.eq, D.eqf, D.not, D.notf, D.and, D.andf, D.or, D.orf, D.inr, D.var, D.lit, D.cellB, D.beq, D.beqf, D.litI, D.varI, D.add, D.sub, D.mul, D.min, D.max, D.cellI, D.i64min, D.i64max, Int.toNat_zero]; omega) (Sat.back rfl ⟨⟨⟨by show 0 ≤ u.iv 2 - 1; omega, by show u.iv 2 - 1 ≤ u.iv 0; omega⟩, ⟨fun h => (by cases h), by show 0 ≤ u.iv 7 + 1; omega, hf.1, hf.2⟩, by show u.iv 7 + 1 = u.iv 0 - (u.iv 2 - 1); omega, i4, i5, i6, fun i => ?_, fun i => ?_, fun i k => ?_, fun i hi => ?_⟩, hm⟩)
        · rw [← i7 i]
          simp [mkW, -Int.pred_toNat, Sub.nenv, assoc, CV.I, CV.B, upsI, upsB, Seg.I, Seg.B, SC.I, SC.B, IE.den, BE.den]
        · obtain ⟨x, y⟩ := i8 i
          refine ⟨?_, ?_⟩
          · simp [-Int.pred_toNat, Sub.nenv, assoc, CV.I, CV.B, upsI, upsB, Seg.I, Seg.B, SC.I, SC.B, IE.den, BE.den, x]
          · simp [-Int.pred_toNat, Sub.nenv, assoc, CV.I, CV.B, upsI, upsB, Seg.I, Seg.B, SC.I, SC.B, IE.den, BE.den, y]
        · rw [← i9 i k]
          simp [mkW, -Int.pred_toNat, Sub.nenv, assoc, CV.I, CV.B, upsI, upsB, Seg.I, Seg.B, SC.I, SC.B, IE.den, BE.den]
        · replace hi : (i : Int) < u.iv 7 + 1 := hi
          by_cases h : i = (u.iv 7).toNat
          · subst h
            have : (((u.iv 7).toNat : Nat) : Int) = u.iv 7 := by omega
            simp [-Int.pred_toNat, Sub.nenv, assoc, CV.I, CV.B, upsI, upsB, Seg.I, Seg.B, SC.I, SC.B, IE.den, BE.den]
            omega
          · have hr := i10 i (by omega)
            have hr2 : u.iv 0 - (i : Int) = (u.iv 0 - (i : Int)) := rfl
            simp [-Int.pred_toNat, Sub.nenv, assoc, CV.I, CV.B, upsI, upsB, Seg.I, Seg.B, SC.I, SC.B, IE.den, BE.den, Ne.symm h, hr]
      · simp only [D.le, D.lef, D.lt, D.ltf, D.eq, D.eqf, D.not, D.notf, D.and, D.andf, D.or, D.orf, D.inr, D.var, D.lit, D.cellB, D.beq, D.beqf, D.litI, D.varI, D.add, D.sub, D.mul, D.min, D.max, D.cellI, D.i64min, D.i64max, Int.toNat_zero] at hge
        have h2 : r.iv 2 = 0 := by omega
        refine Sat.fin ⟨ho, _, rfl, rfl, rfl, ?_, i4, i5, i6, fun i => ?_, fun i => ?_, fun i => ?_, fun i k => ?_, fun i hi => ?_⟩
        · show r.iv 7 = r.iv 0
          omega
        · rw [← i7 i]
          simp [psRd, mkW, -Int.pred_toNat, Sub.nenv, assoc, CV.I, CV.B, upsI, upsB, Seg.I, Seg.B, SC.I, SC.B, IE.den, BE.den]
        · simp [psRd, -Int.pred_toNat, Sub.nenv, assoc, CV.I, CV.B, upsI, upsB, Seg.I, Seg.B, SC.I, SC.B, IE.den, BE.den, (i8 i).1]
        · simp [psRd, -Int.pred_toNat, Sub.nenv, assoc, CV.I, CV.B, upsI, upsB, Seg.I, Seg.B, SC.I, SC.B, IE.den, BE.den, (i8 i).2]
        · rw [← i9 i k]
          simp [psRd, mkW, -Int.pred_toNat, Sub.nenv, assoc, CV.I, CV.B, upsI, upsB, Seg.I, Seg.B, SC.I, SC.B, IE.den, BE.den]
        · replace hi : (i : Int) < r.iv 0 := hi
          show _ = r.iv 0 - (i : Int)
          rw [← i10 i (by omega)]
          simp [psRd, -Int.pred_toNat, Sub.nenv, assoc, CV.I, CV.B, upsI, upsB, Seg.I, Seg.B, SC.I, SC.B, IE.den, BE.den]
theorem new_con : ConOK Tryd.prog newCon newPre newPost :=
  con_ok tabOK (E := newE) (cs := []) rfl (fun k pre post h => by cases h) schedOK rfl new_run (by kernel_rfl) (fun ρ h p hp => by
    obtain ⟨⟨a1, a2⟩, a3, a4⟩ : newPre ρ.num := h
    simp only [knNew, List.mem_cons, List.not_mem_nil, or_false] at hp
    rcases hp with rfl | rfl | rfl | rfl <;> simp only [D.le, D.lef, D.lt, D.ltf, D.eq, D.eqf, D.not, D.notf, D.and, D.andf, D.or, D.orf, D.inr, D.var, D.lit, D.cellB, D.beq, D.beqf, D.litI, D.varI, D.add, D.sub, D.mul, D.min, D.max, D.cellI, D.i64min, D.i64max, Int.toNat_zero] <;> omega) new_sat
end Go.Proofs.YthomdlajobnmnaaDoor
