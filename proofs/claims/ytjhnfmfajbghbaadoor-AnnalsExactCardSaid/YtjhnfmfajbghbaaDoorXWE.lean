/- the document's 'Whole', 'Same': what they leave -/
import Derived.Test.YtjhnfmfajbghbaaDoorAWholeC
import Derived.Test.YtjhnfmfajbghbaaDoorASp
import Derived.Test.YtjhnfmfajbghbaaDoorAEv
set_option linter.unusedSimpArgs false
set_option linter.unusedVariables false
namespace Go.Proofs.YtjhnfmfajbghbaaDoor
open Go.Rex
noncomputable def rwholeE : Ex := { sched := sched, loops := [L22], fin := rWholeCon }
def rwholeOut : Out :=
  .loop 4 { lo := 4, lob := 2, iv := [(8, (.lit 0)), (6, (.lit 0)), (5, (.lit 0))], bv := [(4, (.lit false))], ct := [(7, .ex [] 10 0 0)], bk := [(2, { blk := 1, i1 := (.lit 0), s1 := 10 })] } <|
   .ob (.or (.not (.var 0)) (.ieq (.var 1) (.lit 0))) <|
   .ob (.ile (.lit 0) (.var 1)) <|
   .br (.ilt (.var 8) (.var 1))
   (.ob (.not (.var 0)) <|
    .ob (.ile (.lit 0) (.var 8)) <|
    .br (.cell 3 (.var 8) (.lit 0) 9)
    (.ob (.ile (.mul (.add (.var 5) (.lit 1)) (.lit 80)) (.lit 140737488355328)) <|
     .ob (.ile (.lit 0) (.var 5)) <|
     .ob (.ile (.var 5) (.var 6)) <|
     .ob (.ile (.var 6) (.lit 9223372036854775807)) <|
     .ob (.or (.not (.var 4)) (.ieq (.var 5) (.lit 0))) <|
     .new 9 [.be (.and (.ile (.add (.var 5) (.lit 1)) (.var 9)) (.ile (.var 9) (.lit 9223372036854775807)))] <|
     .ob (.inr .i64 (.add (.var 8) (.lit 1))) <|
     .back 0 { lo := 4, lob := 2, iv := [(8, (.add (.var 8) (.lit 1))), (6, (.var 9)), (5, (.add (.var 5) (.lit 1)))], bv := [(4, (.lit false))], ct := [(7, .up { r := 7, n1 := (.add (.var 5) (.lit 1)), s1 := 10, ks := [.int .i64, .int .i64, .int .i64, .int .i64, .int .i64, .int .i64, .int .i64, .int .i64, .int .i64, .bool] } 0 [⟨0, (.var 5), (.lit 0), 0, .int .i64 (.cell 3 (.var 8) (.lit 0) 0)⟩, ⟨0, (.var 5), (.lit 0), 1, .int .i64 (.cell 3 (.var 8) (.lit 0) 1)⟩, ⟨0, (.var 5), (.lit 0), 2, .int .i64 (.cell 3 (.var 8) (.lit 0) 2)⟩, ⟨0, (.var 5), (.lit 0), 3, .int .i64 (.cell 3 (.var 8) (.lit 0) 3)⟩, ⟨0, (.var 5), (.lit 0), 4, .int .i64 (.cell 3 (.var 8) (.lit 0) 4)⟩, ⟨0, (.var 5), (.lit 0), 5, .int .i64 (.cell 3 (.var 8) (.lit 0) 5)⟩, ⟨0, (.var 5), (.lit 0), 6, .int .i64 (.cell 3 (.var 8) (.lit 0) 6)⟩, ⟨0, (.var 5), (.lit 0), 7, .int .i64 (.cell 3 (.var 8) (.lit 0) 7)⟩, ⟨0, (.var 5), (.lit 0), 8, .int .i64 (.cell 3 (.var 8) (.lit 0) 8)⟩, ⟨0, (.var 5), (.lit 0), 9, .bool (.cell 3 (.var 8) (.lit 0) 9)⟩] (.lit 0))], bk := [(2, { blk := 4, i1 := (.lit 0), s1 := 10 })] })
    (.ob (.inr .i64 (.add (.var 8) (.lit 1))) <|
     .back 0 { lo := 4, lob := 2, iv := [(8, (.add (.var 8) (.lit 1))), (6, (.var 6)), (5, (.var 5))], bv := [(4, (.var 4))], ct := [(7, .up { r := 7, n1 := (.var 5), s1 := 10, ks := [.int .i64, .int .i64, .int .i64, .int .i64, .int .i64, .int .i64, .int .i64, .int .i64, .int .i64, .bool] } 0 [] (.lit 0))], bk := [(2, { blk := 2, i1 := (.lit 0), s1 := 10 })] }))
   (.fin { lo := 4, lob := 1, iv := [(6, (.var 6)), (5, (.var 5))], bv := [(4, (.var 4))], ct := [(7, .up { r := 7, n1 := (.var 5), s1 := 10, ks := [.int .i64, .int .i64, .int .i64, .int .i64, .int .i64, .int .i64, .int .i64, .int .i64, .int .i64, .bool] } 0 [] (.lit 0))], bk := [(1, { blk := 2, i1 := (.lit 0), s1 := 10 })] })
theorem rwhole_run : exec tab rwholeE 8000 [] (cfg0 22 4 [] [] rWholeCon.hp rWholeCon.args) = rwholeOut := by kernel_rfl
theorem rwhole_sat (ρ : Env) (hpre : wholePre ρ.num) : Sat wholePost [] [] ρ rwholeOut := by
  replace hpre : wholePre ρ := hpre
  unfold rwholeOut
  refine Sat.loopK wholeInv (fun r => (r.iv 1 - r.iv 8).toNat) wholePre ?_ (fun _ => hpre) fun r hp hI => Sat.ob (nilOb hp.1) (Sat.ob (decide_eq_true hp.1.2.1) (Sat.br (fun hlt => ?_) (fun hge => ?_)))
  · have h2 := hpre.1.2.1
    simp only [Nat.zero_add] at h2
    simp [wholeInv, OkSl, recs, wholeOf, -Int.pred_toNat, Sub.nenv, assoc, CV.I, CV.B, upsI, upsB, Seg.I, Seg.B, SC.I, SC.B, IE.den, BE.den, h2]
  · replace hI : wholeInv r := hI
    replace hlt : r.iv 8 < r.iv 1 := of_decide_eq_true hlt
    have hat : wholeAt r := ⟨hp, hI, hlt⟩
    rw [show (r.num.iv 1 - r.num.iv 8).toNat = (r.iv 1 - r.iv 8).toNat from rfl]
    have hlen := hat.len
    obtain ⟨⟨i1, i2⟩, ⟨o1, o2, o3, o4⟩, -⟩ := hI
    have hp2 := hp.2
    simp only [Nat.reduceAdd] at o1 o2 o3 o4
    have hm : (r.iv 1 - (r.iv 8 + 1)).toNat < (r.iv 1 - r.iv 8).toNat := by omega
    refine Sat.ob (nilLt hp.1 (by simp only [Nat.zero_add]; omega)) (Sat.ob (decide_eq_true i1) (Sat.br (fun hb => ?_) (fun hb => ?_)))
    · replace hb : (recAt mkRw r 3 (r.iv 8).toNat).done = true := hb
      refine Sat.ob (by simp only [D.le, D.lef, D.lt, D.ltf, D.eq, D.eqf, D.not, D.notf, D.and, D.andf, D.or, D.orf, D.inr, D.var, D.lit, D.cellB, D.beq, D.beqf, D.litI, D.varI, D.add, D.sub, D.mul, D.min, D.max, D.cellI, D.i64min, D.i64max, Int.toNat_zero]; omega) (Sat.ob (by simp only [D.le, D.lef, D.lt, D.ltf, D.eq, D.eqf, D.not, D.notf, D.and, D.andf, D.or, D.orf, D.inr, D.var, D.lit, D.cellB, D.beq, D.beqf, D.litI, D.varI, D.add, D.sub, D.mul, D.min, D.max, D.cellI, D.i64min, D.i64max, Int.toNat_zero]; omega) (Sat.ob (by simp only [D.le, D.lef, D.lt, D.ltf, D.eq, D.eqf, D.not, D.notf, D.and, D.andf, D.or, D.orf, D.inr, D.var, D.lit, D.cellB, D.beq, D.beqf, D.litI, D.varI, D.add, D.sub, D.mul, D.min, D.max, D.cellI, D.i64min, D.i64max, Int.toNat_zero]; omega) (Sat.ob (by simp only [D.le, D.lef, D.lt, D.ltf, D.eq, D.eqf, D.not, D.notf, D.and, D.andf, D.or, D.orf, D.inr, D.var, D.lit, D.cellB, D.beq, D.beqf, D.litI, D.varI, D.add, D.sub, D.mul, D.min, D.max, D.cellI, D.i64min, D.i64max, Int.toNat_zero]; omega) (Sat.ob (nilOb hat.2.1.2.1) (Sat.newB (fun q => wholeAt q ∧ (recAt mkRw q 3 (q.iv 8).toNat).done = true ∧ q.iv 5 ≤ q.iv 8 ∧ 0 ≤ q.iv 5 ∧ (q.iv 1 - (q.iv 8 + 1)).toNat < (r.iv 1 - r.iv 8).toNat) (fun _ => ⟨hat, hb, hlen, o2, hm⟩) fun q hq hf => ?_)))))
      obtain ⟨hat, hb, hlen, o2, hm⟩ := hq
      simp only [D.le, D.lef, D.lt, D.ltf, D.eq, D.eqf, D.not, D.notf, D.and, D.andf, D.or, D.orf, D.inr, D.var, D.lit, D.cellB, D.beq, D.beqf, D.litI, D.varI, D.add, D.sub, D.mul, D.min, D.max, D.cellI, D.i64min, D.i64max, Int.toNat_zero] at hf
      obtain ⟨⟨_, hp2⟩, ⟨⟨i1, i2⟩, _⟩, hlt⟩ := id hat
      refine Sat.ob (by simp only [D.le, D.lef, D.lt, D.ltf, D.eq, D.eqf, D.not, D.notf, D.and, D.andf, D.or, D.orf, D.inr, D.var, D.lit, D.cellB, D.beq, D.beqf, D.litI, D.varI, D.add, D.sub, D.mul, D.min, D.max, D.cellI, D.i64min, D.i64max, Int.toNat_zero]; omega) (Sat.back rfl ⟨hat.step rfl rfl rfl rfl ?_ ?_, hm⟩)
      · refine ⟨fun h => (by cases h), ?_, hf.1, hf.2⟩
        show 0 ≤ q.iv 5 + 1
        omega
      · have n1 : ∀ i, i < (q.iv 5).toNat → ¬ (q.iv 5).toNat = i := fun i hi => by omega
        refine (recs_push (x := recAt mkRw q 3 (q.iv 8).toNat) (b := 4) (ρ := q) o2 rfl (fun i hi => ?_) ?_).trans ?_
        · simp only [Nat.reduceAdd] at hi
          simp [recAt, mkRw, -Int.pred_toNat, Sub.nenv, assoc, CV.I, CV.B, upsI, upsB, Seg.I, Seg.B, SC.I, SC.B, IE.den, BE.den, n1 i hi]
        · simp only [Nat.reduceAdd]
          simp [recAt, mkRw, -Int.pred_toNat, Sub.nenv, assoc, CV.I, CV.B, upsI, upsB, Seg.I, Seg.B, SC.I, SC.B, IE.den, BE.den]
        · simp [wholeOf, hb]
    · replace hb : (recAt mkRw r 3 (r.iv 8).toNat).done = false := hb
      refine Sat.ob (by simp only [D.le, D.lef, D.lt, D.ltf, D.eq, D.eqf, D.not, D.notf, D.and, D.andf, D.or, D.orf, D.inr, D.var, D.lit, D.cellB, D.beq, D.beqf, D.litI, D.varI, D.add, D.sub, D.mul, D.min, D.max, D.cellI, D.i64min, D.i64max, Int.toNat_zero]; omega) (Sat.back rfl ⟨hat.step rfl rfl rfl rfl ⟨o1, o2, o3, o4⟩ ?_, hm⟩)
      have e1 : wholeOf [recAt mkRw r 3 (r.iv 8).toNat] = [] := by simp [wholeOf, hb]
      rw [e1, List.append_nil]
      exact recs_same (ρ := r) (b := 4) rfl fun i _ => by simp [recAt, mkRw, -Int.pred_toNat, Sub.nenv, assoc, CV.I, CV.B, upsI, upsB, Seg.I, Seg.B, SC.I, SC.B, IE.den, BE.den]
  · replace hge : ¬ r.iv 8 < r.iv 1 := of_decide_eq_false hge
    replace hI : wholeInv r := hI
    obtain ⟨⟨i1, i2⟩, ho, hn⟩ := hI
    refine Sat.fin ⟨ho, ?_⟩
    have e1 := recs_full (mk := mkRw) r 0 (n := (r.iv 8).toNat) (by simp only [Nat.zero_add]; omega)
    rw [e1] at hn
    refine Eq.trans (recs_same (ρ := r) (b := 4) rfl fun i _ => ?_) hn
    simp [recAt, mkRw, -Int.pred_toNat, Sub.nenv, assoc, CV.I, CV.B, upsI, upsB, Seg.I, Seg.B, SC.I, SC.B, IE.den, BE.den]
theorem rwhole_con : ConOK Tryd.prog rWholeCon wholePre wholePost :=
  con_ok tabOK (E := rwholeE) (cs := []) rfl (fun k pre post h => by cases h) schedOK rfl rwhole_run (by kernel_rfl) (fun ρ _ p hp => by cases hp) rwhole_sat
noncomputable def rsameE : Ex := { sched := sched, loops := [L19], fin := rSameCon }
def rsameOut : Out :=
  .ob (.or (.not (.var 0)) (.ieq (.var 1) (.lit 0))) <|
   .ob (.ile (.lit 0) (.var 1)) <|
   .ob (.or (.not (.var 4)) (.ieq (.var 5) (.lit 0))) <|
   .ob (.ile (.lit 0) (.var 5)) <|
   .br (.not (.ieq (.var 1) (.var 5)))
   (.fin { lo := 8, lob := 2, bv := [(8, (.lit false))] })
   (.loop 8 { lo := 8, lob := 2, iv := [(8, (.lit 0))] } <|
    .br (.ilt (.var 8) (.var 1))
    (.ob (.not (.var 0)) <|
     .ob (.ile (.lit 0) (.var 8)) <|
     .ob (.not (.var 4)) <|
     .ob (.ilt (.var 8) (.var 5)) <|
     .br (.not (.and (.ieq (.cell 3 (.var 8) (.lit 0) 0) (.cell 7 (.var 8) (.lit 0) 0)) (.and (.and (.ieq (.cell 3 (.var 8) (.lit 0) 1) (.cell 7 (.var 8) (.lit 0) 1)) (.and (.ieq (.cell 3 (.var 8) (.lit 0) 2) (.cell 7 (.var 8) (.lit 0) 2)) (.and (.ieq (.cell 3 (.var 8) (.lit 0) 3) (.cell 7 (.var 8) (.lit 0) 3)) (.ieq (.cell 3 (.var 8) (.lit 0) 4) (.cell 7 (.var 8) (.lit 0) 4))))) (.and (.and (.ieq (.cell 3 (.var 8) (.lit 0) 5) (.cell 7 (.var 8) (.lit 0) 5)) (.ieq (.cell 3 (.var 8) (.lit 0) 6) (.cell 7 (.var 8) (.lit 0) 6))) (.and (.ieq (.cell 3 (.var 8) (.lit 0) 7) (.cell 7 (.var 8) (.lit 0) 7)) (.and (.ieq (.cell 3 (.var 8) (.lit 0) 8) (.cell 7 (.var 8) (.lit 0) 8)) (.beq (.cell 3 (.var 8) (.lit 0) 9) (.cell 7 (.var 8) (.lit 0) 9))))))))
     (.fin { lo := 8, lob := 2, bv := [(8, (.lit false))] })
     (.ob (.inr .i64 (.add (.var 8) (.lit 1))) <|
      .back 0 { lo := 8, lob := 2, iv := [(8, (.add (.var 8) (.lit 1)))] }))
    (.fin { lo := 8, lob := 2, bv := [(8, (.lit true))] }))
theorem rsame_run : exec tab rsameE 8000 [] (cfg0 19 8 [] [] rSameCon.hp rSameCon.args) = rsameOut := by kernel_rfl
def rsamePre (ρ : Env) : Prop := OkSl ρ 0 ∧ OkSl ρ 4
def rsamePost (ρ : Env) : Prop := ρ.bv 8 = true ↔ recs mkRw ρ 0 = recs mkRw ρ 4
def rsameInv (ρ : Env) : Prop := (0 ≤ ρ.iv 8 ∧ ρ.iv 8 ≤ ρ.iv 1) ∧ ∀ i : Nat, (i : Int) < ρ.iv 8 → recAt mkRw ρ 3 i = recAt mkRw ρ 7 i
theorem rsame_sat (ρ : Env) (hpre : rsamePre ρ.num) : Sat rsamePost [] [] ρ rsameOut := by
  replace hpre : rsamePre ρ := hpre
  unfold rsameOut
  refine Sat.ob (nilOb hpre.1) (Sat.ob (decide_eq_true hpre.1.2.1) (Sat.ob (nilOb hpre.2) (Sat.ob (decide_eq_true hpre.2.2.1) (Sat.br (fun hne => ?_) (fun heq => ?_)))))
  · refine Sat.fin ⟨fun h => (by cases h), fun h => ?_⟩
    have hl := congrArg List.length h
    replace hl : (recs mkRw ρ 0).length = (recs mkRw ρ 4).length := hl
    rw [recs_length, recs_length] at hl
    have a := hpre.1.2.1
    have b := hpre.2.2.1
    simp only [D.le, D.lef, D.lt, D.ltf, D.eq, D.eqf, D.not, D.notf, D.and, D.andf, D.or, D.orf, D.inr, D.var, D.lit, D.cellB, D.beq, D.beqf, D.litI, D.varI, D.add, D.sub, D.mul, D.min, D.max, D.cellI, D.i64min, D.i64max, Int.toNat_zero, Nat.zero_add, Nat.reduceAdd] at *
    omega
  · replace heq : ρ.iv 1 = ρ.iv 5 := by simpa only [D.le, D.lef, D.lt, D.ltf, D.eq, D.eqf, D.not, D.notf, D.and, D.andf, D.or, D.orf, D.inr, D.var, D.lit, D.cellB, D.beq, D.beqf, D.litI, D.varI, D.add, D.sub, D.mul, D.min, D.max, D.cellI, D.i64min, D.i64max, Int.toNat_zero] using heq
    refine Sat.loopK rsameInv (fun r => (r.iv 1 - r.iv 8).toNat) (fun r => rsamePre r ∧ r.iv 1 = r.iv 5) ⟨⟨Int.le_refl 0, hpre.1.2.1⟩, fun i hi => ?_⟩ (fun _ => ⟨hpre, heq⟩) fun r hK hI => ?_
    · have : (i : Int) < 0 := hi
      omega
    obtain ⟨hpre, heq⟩ := hK
    replace hI : rsameInv r := hI
    rw [show (r.num.iv 1 - r.num.iv 8).toNat = (r.iv 1 - r.iv 8).toNat from rfl]
    obtain ⟨⟨i1, i2⟩, i3⟩ := hI
    refine Sat.br (fun hlt => ?_) (fun hge => ?_)
    · replace hlt : r.iv 8 < r.iv 1 := of_decide_eq_true hlt
      refine Sat.ob (nilLt hpre.1 (by simp only [Nat.zero_add]; omega)) (Sat.ob (decide_eq_true i1) (Sat.ob (nilLt hpre.2 (by simp only [Nat.reduceAdd]; omega)) (Sat.ob (decide_eq_true (by simp only [IE.den]; omega)) (Sat.br (fun hne => ?_) (fun hsame => ?_)))))
      · refine Sat.fin ⟨fun h => (by cases h), fun h => ?_⟩
        have h1 : (recs mkRw r 0)[(r.iv 8).toNat]? = (recs mkRw r 4)[(r.iv 8).toNat]? := congrArg (fun l => l[(r.iv 8).toNat]?) h
        rw [recs_get (by simp only [Nat.zero_add]; omega), recs_get (by simp only [Nat.reduceAdd]; omega)] at h1
        simp [recAt, mkRw] at h1
        simp [BE.den, IE.den, h1] at hne
      · have hle := hpre.1.2.2.2
        have hle2 := hpre.1.2.2.1
        simp only [Nat.zero_add, Nat.reduceAdd] at hle hle2
        refine Sat.ob (by simp only [D.le, D.lef, D.lt, D.ltf, D.eq, D.eqf, D.not, D.notf, D.and, D.andf, D.or, D.orf, D.inr, D.var, D.lit, D.cellB, D.beq, D.beqf, D.litI, D.varI, D.add, D.sub, D.mul, D.min, D.max, D.cellI, D.i64min, D.i64max, Int.toNat_zero]; omega) (Sat.back rfl ⟨⟨⟨?_, ?_⟩, fun i hi => ?_⟩, ?_⟩)
        · show 0 ≤ r.iv 8 + 1
          omega
        · show r.iv 8 + 1 ≤ r.iv 1
          omega
        · replace hi : (i : Int) < r.iv 8 + 1 := hi
          show recAt mkRw r 3 i = recAt mkRw r 7 i
          by_cases h : (i : Int) < r.iv 8
          · exact i3 i h
          · have hi2 : i = (r.iv 8).toNat := by omega
            subst hi2
            simp [BE.den, IE.den] at hsame
            simp [recAt, mkRw, hsame]
        · show (r.iv 1 - (r.iv 8 + 1)).toNat < (r.iv 1 - r.iv 8).toNat
          omega
    · replace hge : ¬ r.iv 8 < r.iv 1 := of_decide_eq_false hge
      refine Sat.fin ⟨fun _ => ?_, fun _ => rfl⟩
      show recs mkRw r 0 = recs mkRw r 4
      exact recs_same (by simp only [Nat.zero_add, Nat.reduceAdd]; exact heq) fun i hi => i3 i (by simp only [Nat.reduceAdd] at hi; omega)
theorem rsame_con : ConOK Tryd.prog rSameCon rsamePre rsamePost :=
  con_ok tabOK (E := rsameE) (cs := []) rfl (fun k pre post h => by cases h) schedOK rfl rsame_run (by kernel_rfl) (fun ρ _ p hp => by cases hp) rsame_sat
end Go.Proofs.YtjhnfmfajbghbaaDoor

set_option linter.unusedSimpArgs false
set_option linter.unusedVariables false
namespace Go.Proofs.YtjhnfmfajbghbaaDoor
open Go.Rex
noncomputable def reventsE : Ex := { sched := sched, loops := [L18], fin := rEventsCon }
def reventsOut : Out :=
  .loop 4 { lo := 4, lob := 2, iv := [(8, (.lit 0)), (6, (.lit 0)), (5, (.lit 0))], bv := [(4, (.lit false))], ct := [(7, .ex [] 8 0 0)], bk := [(2, { blk := 1, i1 := (.lit 0), s1 := 8 })] } <|
   .ob (.or (.not (.var 0)) (.ieq (.var 1) (.lit 0))) <|
   .ob (.ile (.lit 0) (.var 1)) <|
   .br (.ilt (.var 8) (.var 1))
   (.ob (.not (.var 0)) <|
    .ob (.ile (.lit 0) (.var 8)) <|
    .br (.cell 3 (.var 8) (.lit 0) 1)
    (.ob (.ile (.mul (.add (.var 5) (.lit 1)) (.lit 64)) (.lit 140737488355328)) <|
     .ob (.ile (.lit 0) (.var 5)) <|
     .ob (.ile (.var 5) (.var 6)) <|
     .ob (.ile (.var 6) (.lit 9223372036854775807)) <|
     .ob (.or (.not (.var 4)) (.ieq (.var 5) (.lit 0))) <|
     .new 9 [.be (.and (.ile (.add (.var 5) (.lit 1)) (.var 9)) (.ile (.var 9) (.lit 9223372036854775807)))] <|
     .br (.cell 3 (.var 8) (.lit 0) 7)
     (.ob (.ile (.mul (.add (.add (.var 5) (.lit 1)) (.lit 1)) (.lit 64)) (.lit 140737488355328)) <|
      .ob (.ile (.lit 0) (.add (.var 5) (.lit 1))) <|
      .new 10 [.be (.and (.ile (.add (.add (.var 5) (.lit 1)) (.lit 1)) (.var 10)) (.ile (.var 10) (.lit 9223372036854775807)))] <|
      .ob (.inr .i64 (.add (.var 8) (.lit 1))) <|
      .back 0 { lo := 4, lob := 2, iv := [(8, (.add (.var 8) (.lit 1))), (6, (.var 10)), (5, (.add (.add (.var 5) (.lit 1)) (.lit 1)))], bv := [(4, (.lit false))], ct := [(7, .up { r := 7, n1 := (.add (.add (.var 5) (.lit 1)) (.lit 1)), s1 := 8, ks := [.int .i64, .bool, .int .i64, .int .i64, .int .i64, .int .i64, .int .i64, .int .i64] } 0 [⟨0, (.add (.var 5) (.lit 1)), (.lit 0), 0, .int .i64 (.cell 3 (.var 8) (.lit 0) 0)⟩, ⟨0, (.add (.var 5) (.lit 1)), (.lit 0), 1, .bool (.lit false)⟩, ⟨0, (.add (.var 5) (.lit 1)), (.lit 0), 2, .int .i64 (.lit 0)⟩, ⟨0, (.add (.var 5) (.lit 1)), (.lit 0), 3, .int .i64 (.lit 0)⟩, ⟨0, (.add (.var 5) (.lit 1)), (.lit 0), 4, .int .i64 (.lit 0)⟩, ⟨0, (.add (.var 5) (.lit 1)), (.lit 0), 5, .int .i64 (.lit 0)⟩, ⟨0, (.add (.var 5) (.lit 1)), (.lit 0), 6, .int .i64 (.cell 3 (.var 8) (.lit 0) 8)⟩, ⟨0, (.add (.var 5) (.lit 1)), (.lit 0), 7, .int .i64 (.cell 3 (.var 8) (.lit 0) 9)⟩, ⟨0, (.var 5), (.lit 0), 0, .int .i64 (.cell 3 (.var 8) (.lit 0) 0)⟩, ⟨0, (.var 5), (.lit 0), 1, .bool (.lit true)⟩, ⟨0, (.var 5), (.lit 0), 2, .int .i64 (.cell 3 (.var 8) (.lit 0) 2)⟩, ⟨0, (.var 5), (.lit 0), 3, .int .i64 (.cell 3 (.var 8) (.lit 0) 3)⟩, ⟨0, (.var 5), (.lit 0), 4, .int .i64 (.cell 3 (.var 8) (.lit 0) 4)⟩, ⟨0, (.var 5), (.lit 0), 5, .int .i64 (.cell 3 (.var 8) (.lit 0) 5)⟩, ⟨0, (.var 5), (.lit 0), 6, .int .i64 (.lit 0)⟩, ⟨0, (.var 5), (.lit 0), 7, .int .i64 (.lit 0)⟩] (.lit 0))], bk := [(2, { blk := 6, i1 := (.lit 0), s1 := 8 })] })
     (.ob (.inr .i64 (.add (.var 8) (.lit 1))) <|
      .back 0 { lo := 4, lob := 2, iv := [(8, (.add (.var 8) (.lit 1))), (6, (.var 9)), (5, (.add (.var 5) (.lit 1)))], bv := [(4, (.lit false))], ct := [(7, .up { r := 7, n1 := (.add (.var 5) (.lit 1)), s1 := 8, ks := [.int .i64, .bool, .int .i64, .int .i64, .int .i64, .int .i64, .int .i64, .int .i64] } 0 [⟨0, (.var 5), (.lit 0), 0, .int .i64 (.cell 3 (.var 8) (.lit 0) 0)⟩, ⟨0, (.var 5), (.lit 0), 1, .bool (.lit true)⟩, ⟨0, (.var 5), (.lit 0), 2, .int .i64 (.cell 3 (.var 8) (.lit 0) 2)⟩, ⟨0, (.var 5), (.lit 0), 3, .int .i64 (.cell 3 (.var 8) (.lit 0) 3)⟩, ⟨0, (.var 5), (.lit 0), 4, .int .i64 (.cell 3 (.var 8) (.lit 0) 4)⟩, ⟨0, (.var 5), (.lit 0), 5, .int .i64 (.cell 3 (.var 8) (.lit 0) 5)⟩, ⟨0, (.var 5), (.lit 0), 6, .int .i64 (.lit 0)⟩, ⟨0, (.var 5), (.lit 0), 7, .int .i64 (.lit 0)⟩] (.lit 0))], bk := [(2, { blk := 4, i1 := (.lit 0), s1 := 8 })] }))
    (.br (.cell 3 (.var 8) (.lit 0) 7)
     (.ob (.ile (.mul (.add (.var 5) (.lit 1)) (.lit 64)) (.lit 140737488355328)) <|
      .ob (.ile (.lit 0) (.var 5)) <|
      .ob (.ile (.var 5) (.var 6)) <|
      .ob (.ile (.var 6) (.lit 9223372036854775807)) <|
      .ob (.or (.not (.var 4)) (.ieq (.var 5) (.lit 0))) <|
      .new 9 [.be (.and (.ile (.add (.var 5) (.lit 1)) (.var 9)) (.ile (.var 9) (.lit 9223372036854775807)))] <|
      .ob (.inr .i64 (.add (.var 8) (.lit 1))) <|
      .back 0 { lo := 4, lob := 2, iv := [(8, (.add (.var 8) (.lit 1))), (6, (.var 9)), (5, (.add (.var 5) (.lit 1)))], bv := [(4, (.lit false))], ct := [(7, .up { r := 7, n1 := (.add (.var 5) (.lit 1)), s1 := 8, ks := [.int .i64, .bool, .int .i64, .int .i64, .int .i64, .int .i64, .int .i64, .int .i64] } 0 [⟨0, (.var 5), (.lit 0), 0, .int .i64 (.cell 3 (.var 8) (.lit 0) 0)⟩, ⟨0, (.var 5), (.lit 0), 1, .bool (.lit false)⟩, ⟨0, (.var 5), (.lit 0), 2, .int .i64 (.lit 0)⟩, ⟨0, (.var 5), (.lit 0), 3, .int .i64 (.lit 0)⟩, ⟨0, (.var 5), (.lit 0), 4, .int .i64 (.lit 0)⟩, ⟨0, (.var 5), (.lit 0), 5, .int .i64 (.lit 0)⟩, ⟨0, (.var 5), (.lit 0), 6, .int .i64 (.cell 3 (.var 8) (.lit 0) 8)⟩, ⟨0, (.var 5), (.lit 0), 7, .int .i64 (.cell 3 (.var 8) (.lit 0) 9)⟩] (.lit 0))], bk := [(2, { blk := 4, i1 := (.lit 0), s1 := 8 })] })
     (.ob (.inr .i64 (.add (.var 8) (.lit 1))) <|
      .back 0 { lo := 4, lob := 2, iv := [(8, (.add (.var 8) (.lit 1))), (6, (.var 6)), (5, (.var 5))], bv := [(4, (.var 4))], ct := [(7, .up { r := 7, n1 := (.var 5), s1 := 8, ks := [.int .i64, .bool, .int .i64, .int .i64, .int .i64, .int .i64, .int .i64, .int .i64] } 0 [] (.lit 0))], bk := [(2, { blk := 2, i1 := (.lit 0), s1 := 8 })] })))
   (.fin { lo := 4, lob := 1, iv := [(6, (.var 6)), (5, (.var 5))], bv := [(4, (.var 4))], ct := [(7, .up { r := 7, n1 := (.var 5), s1 := 8, ks := [.int .i64, .bool, .int .i64, .int .i64, .int .i64, .int .i64, .int .i64, .int .i64] } 0 [] (.lit 0))], bk := [(1, { blk := 2, i1 := (.lit 0), s1 := 8 })] })
theorem revents_run : exec tab reventsE 8000 [] (cfg0 18 4 [] [] rEventsCon.hp rEventsCon.args) = reventsOut := by kernel_rfl
set_option maxHeartbeats 1000000 in
theorem revents_sat (ρ : Env) (hpre : eventsPre ρ.num) : Sat eventsPost [] [] ρ reventsOut := by
  replace hpre : eventsPre ρ := hpre
  unfold reventsOut
  refine Sat.loop eventsInv (fun r => (r.iv 1 - r.iv 8).toNat) ?_ fun e hI => Sat.ob (nilOb (ρ := ρ.join 4 e) (b := 0) hpre.1) (Sat.ob (decide_eq_true hpre.1.2.1) (Sat.br (fun hlt => ?_) (fun hge => ?_)))
  · have h2 := hpre.1.2.1
    simp only [Nat.zero_add] at h2
    simp [eventsInv, OkSl, recs, -Int.pred_toNat, Sub.nenv, assoc, CV.I, CV.B, upsI, upsB, Seg.I, Seg.B, SC.I, SC.B, IE.den, BE.den, h2]
  · replace hpre : eventsPre (ρ.join 4 e) := hpre
    replace hI : eventsInv (ρ.join 4 e) := hI
    replace hlt : (ρ.join 4 e).iv 8 < (ρ.join 4 e).iv 1 := of_decide_eq_true hlt
    have hat : eventsAt (ρ.join 4 e) := ⟨hpre, hI, hlt⟩
    clear hpre hI hlt
    rw [show ((ρ.join 4 e).num.iv 1 - (ρ.join 4 e).num.iv 8).toNat = ((ρ.join 4 e).iv 1 - (ρ.join 4 e).iv 8).toNat from rfl]
    generalize ρ.join 4 e = r at *
    have hlen := hat.len
    have hp := hat.1
    obtain ⟨⟨i1, i2⟩, ⟨o1, o2, o3, o4⟩, -⟩ := hat.2.1
    have hlt := hat.2.2
    have hp2 := hp.2
    simp only [Nat.reduceAdd] at o1 o2 o3 o4
    have hm : (r.iv 1 - (r.iv 8 + 1)).toNat < (r.iv 1 - r.iv 8).toNat := by omega
    have hnl := nilLt hp.1 (by simp only [Nat.zero_add]; omega)
    refine Sat.ob hnl (Sat.ob (decide_eq_true i1) (Sat.br (fun hb => ?_) (fun hb => ?_)))
    · replace hb : (recAt mkBt r 3 (r.iv 8).toNat).begins = true := hb
      refine Sat.ob (by simp only [D.le, D.lef, D.lt, D.ltf, D.eq, D.eqf, D.not, D.notf, D.and, D.andf, D.or, D.orf, D.inr, D.var, D.lit, D.cellB, D.beq, D.beqf, D.litI, D.varI, D.add, D.sub, D.mul, D.min, D.max, D.cellI, D.i64min, D.i64max, Int.toNat_zero]; omega) (Sat.ob (by simp only [D.le, D.lef, D.lt, D.ltf, D.eq, D.eqf, D.not, D.notf, D.and, D.andf, D.or, D.orf, D.inr, D.var, D.lit, D.cellB, D.beq, D.beqf, D.litI, D.varI, D.add, D.sub, D.mul, D.min, D.max, D.cellI, D.i64min, D.i64max, Int.toNat_zero]; omega) (Sat.ob (by simp only [D.le, D.lef, D.lt, D.ltf, D.eq, D.eqf, D.not, D.notf, D.and, D.andf, D.or, D.orf, D.inr, D.var, D.lit, D.cellB, D.beq, D.beqf, D.litI, D.varI, D.add, D.sub, D.mul, D.min, D.max, D.cellI, D.i64min, D.i64max, Int.toNat_zero]; omega) (Sat.ob (by simp only [D.le, D.lef, D.lt, D.ltf, D.eq, D.eqf, D.not, D.notf, D.and, D.andf, D.or, D.orf, D.inr, D.var, D.lit, D.cellB, D.beq, D.beqf, D.litI, D.varI, D.add, D.sub, D.mul, D.min, D.max, D.cellI, D.i64min, D.i64max, Int.toNat_zero]; omega) (Sat.ob (nilOb hat.2.1.2.1) (Sat.new fun e1 hf => ?_)))))
      have hf1 := hf _ (List.mem_singleton.2 rfl)
      simp only [D.be, D.le, D.lef, D.lt, D.ltf, D.eq, D.eqf, D.not, D.notf, D.and, D.andf, D.or, D.orf, D.inr, D.var, D.lit, D.cellB, D.beq, D.beqf, D.litI, D.varI, D.add, D.sub, D.mul, D.min, D.max, D.cellI, D.i64min, D.i64max, Int.toNat_zero] at hf1
      replace hf1 : r.iv 5 + 1 ≤ (r.join 9 e1).iv 9 ∧ (r.join 9 e1).iv 9 ≤ 9223372036854775807 := hf1
      replace hat : eventsAt (r.join 9 e1) := hat
      replace hb : (recAt mkBt (r.join 9 e1) 3 ((r.join 9 e1).iv 8).toNat).begins = true := hb
      replace hlen : (r.join 9 e1).iv 5 ≤ 2 * (r.join 9 e1).iv 8 := hlen
      replace hf1 : (r.join 9 e1).iv 5 + 1 ≤ (r.join 9 e1).iv 9 ∧ (r.join 9 e1).iv 9 ≤ 9223372036854775807 := hf1
      replace hm : ((r.join 9 e1).iv 1 - ((r.join 9 e1).iv 8 + 1)).toNat < (r.iv 1 - r.iv 8).toNat := hm
      replace o2 : 0 ≤ (r.join 9 e1).iv 5 := o2
      replace hp2 : (r.join 9 e1).iv 1 ≤ 1000000 := hp2
      replace i1 : 0 ≤ (r.join 9 e1).iv 8 := i1
      replace hlt : (r.join 9 e1).iv 8 < (r.join 9 e1).iv 1 := hlt
      clear o1 o3 o4 hf hnl i2 hp
      generalize r.join 9 e1 = q at *
      refine Sat.br (fun hd => ?_) (fun hd => ?_)
      · replace hd : (recAt mkBt q 3 (q.iv 8).toNat).ends = true := hd
        refine Sat.ob (by simp only [D.le, D.lef, D.lt, D.ltf, D.eq, D.eqf, D.not, D.notf, D.and, D.andf, D.or, D.orf, D.inr, D.var, D.lit, D.cellB, D.beq, D.beqf, D.litI, D.varI, D.add, D.sub, D.mul, D.min, D.max, D.cellI, D.i64min, D.i64max, Int.toNat_zero]; omega) (Sat.ob (by simp only [D.le, D.lef, D.lt, D.ltf, D.eq, D.eqf, D.not, D.notf, D.and, D.andf, D.or, D.orf, D.inr, D.var, D.lit, D.cellB, D.beq, D.beqf, D.litI, D.varI, D.add, D.sub, D.mul, D.min, D.max, D.cellI, D.i64min, D.i64max, Int.toNat_zero]; omega) (Sat.new fun e2 hf => ?_))
        have hf2 := hf _ (List.mem_singleton.2 rfl)
        simp only [D.be, D.le, D.lef, D.lt, D.ltf, D.eq, D.eqf, D.not, D.notf, D.and, D.andf, D.or, D.orf, D.inr, D.var, D.lit, D.cellB, D.beq, D.beqf, D.litI, D.varI, D.add, D.sub, D.mul, D.min, D.max, D.cellI, D.i64min, D.i64max, Int.toNat_zero] at hf2
        replace hf2 : q.iv 5 + 1 + 1 ≤ (q.join 10 e2).iv 10 ∧ (q.join 10 e2).iv 10 ≤ 9223372036854775807 := hf2
        replace hat : eventsAt (q.join 10 e2) := hat
        replace hb : (recAt mkBt (q.join 10 e2) 3 ((q.join 10 e2).iv 8).toNat).begins = true := hb
        replace hd : (recAt mkBt (q.join 10 e2) 3 ((q.join 10 e2).iv 8).toNat).ends = true := hd
        replace hf2 : (q.join 10 e2).iv 5 + 1 + 1 ≤ (q.join 10 e2).iv 10 ∧ (q.join 10 e2).iv 10 ≤ 9223372036854775807 := hf2
        replace hm : ((q.join 10 e2).iv 1 - ((q.join 10 e2).iv 8 + 1)).toNat < (r.iv 1 - r.iv 8).toNat := hm
        replace o2 : 0 ≤ (q.join 10 e2).iv 5 := o2
        replace hp2 : (q.join 10 e2).iv 1 ≤ 1000000 := hp2
        replace i1 : 0 ≤ (q.join 10 e2).iv 8 := i1
        replace hlt : (q.join 10 e2).iv 8 < (q.join 10 e2).iv 1 := hlt
        clear hf hf1 hlen
        generalize q.join 10 e2 = u at *
        refine Sat.ob (by simp only [D.le, D.lef, D.lt, D.ltf, D.eq, D.eqf, D.not, D.notf, D.and, D.andf, D.or, D.orf, D.inr, D.var, D.lit, D.cellB, D.beq, D.beqf, D.litI, D.varI, D.add, D.sub, D.mul, D.min, D.max, D.cellI, D.i64min, D.i64max, Int.toNat_zero]; omega) (Sat.back rfl ⟨hat.step rfl rfl rfl rfl ?_ ?_, hm⟩)
        · refine ⟨fun h => (by cases h), ?_, ?_, ?_⟩
          · show 0 ≤ u.iv 5 + 1 + 1
            omega
          · exact hf2.1
          · exact hf2.2
        · have n1 : ∀ i, i < (u.iv 5).toNat → ¬ (u.iv 5).toNat = i ∧ ¬ (u.iv 5 + 1).toNat = i := fun i hi => by omega
          have n2 : ¬ (u.iv 5 + 1).toNat = (u.iv 5).toNat := by omega
          have n3 : (u.iv 5 + 1).toNat = (u.iv 5).toNat + 1 := by omega
          refine (recs_push2 (x := ⟨(recAt mkBt u 3 (u.iv 8).toNat).thread, true, (recAt mkBt u 3 (u.iv 8).toNat).kind, (recAt mkBt u 3 (u.iv 8).toNat).key, (recAt mkBt u 3 (u.iv 8).toNat).val, (recAt mkBt u 3 (u.iv 8).toNat).tall, 0, 0⟩) (y := ⟨(recAt mkBt u 3 (u.iv 8).toNat).thread, false, 0, 0, 0, 0, (recAt mkBt u 3 (u.iv 8).toNat).code, (recAt mkBt u 3 (u.iv 8).toNat).ans⟩) (b := 4) (ρ := u) o2 rfl (fun i hi => ?_) ?_ ?_).trans ?_
          · simp only [Nat.reduceAdd] at hi
            simp [recAt, mkEv, -Int.pred_toNat, Sub.nenv, assoc, CV.I, CV.B, upsI, upsB, Seg.I, Seg.B, SC.I, SC.B, IE.den, BE.den, n1 i hi]
          · simp only [Nat.reduceAdd]
            simp [recAt, mkEv, mkBt, -Int.pred_toNat, Sub.nenv, assoc, CV.I, CV.B, upsI, upsB, Seg.I, Seg.B, SC.I, SC.B, IE.den, BE.den, n2]
          · simp only [Nat.reduceAdd]
            simp [recAt, mkEv, mkBt, -Int.pred_toNat, Sub.nenv, assoc, CV.I, CV.B, upsI, upsB, Seg.I, Seg.B, SC.I, SC.B, IE.den, BE.den, n3]
          · simp [evsOf, hb, hd]
      · replace hd : (recAt mkBt q 3 (q.iv 8).toNat).ends = false := hd
        refine Sat.ob (by simp only [D.le, D.lef, D.lt, D.ltf, D.eq, D.eqf, D.not, D.notf, D.and, D.andf, D.or, D.orf, D.inr, D.var, D.lit, D.cellB, D.beq, D.beqf, D.litI, D.varI, D.add, D.sub, D.mul, D.min, D.max, D.cellI, D.i64min, D.i64max, Int.toNat_zero]; omega) (Sat.back rfl ⟨hat.step rfl rfl rfl rfl ?_ ?_, hm⟩)
        · refine ⟨fun h => (by cases h), ?_, hf1.1, hf1.2⟩
          show 0 ≤ q.iv 5 + 1
          omega
        · have n1 : ∀ i, i < (q.iv 5).toNat → ¬ (q.iv 5).toNat = i := fun i hi => by omega
          refine (recs_push (x := ⟨(recAt mkBt q 3 (q.iv 8).toNat).thread, true, (recAt mkBt q 3 (q.iv 8).toNat).kind, (recAt mkBt q 3 (q.iv 8).toNat).key, (recAt mkBt q 3 (q.iv 8).toNat).val, (recAt mkBt q 3 (q.iv 8).toNat).tall, 0, 0⟩) (b := 4) (ρ := q) o2 rfl (fun i hi => ?_) ?_).trans ?_
          · simp only [Nat.reduceAdd] at hi
            simp [recAt, mkEv, -Int.pred_toNat, Sub.nenv, assoc, CV.I, CV.B, upsI, upsB, Seg.I, Seg.B, SC.I, SC.B, IE.den, BE.den, n1 i hi]
          · simp only [Nat.reduceAdd]
            simp [recAt, mkEv, mkBt, -Int.pred_toNat, Sub.nenv, assoc, CV.I, CV.B, upsI, upsB, Seg.I, Seg.B, SC.I, SC.B, IE.den, BE.den]
          · simp [evsOf, hb, hd]
    · replace hb : (recAt mkBt r 3 (r.iv 8).toNat).begins = false := hb
      refine Sat.br (fun hd => ?_) (fun hd => ?_)
      · replace hd : (recAt mkBt r 3 (r.iv 8).toNat).ends = true := hd
        refine Sat.ob (by simp only [D.le, D.lef, D.lt, D.ltf, D.eq, D.eqf, D.not, D.notf, D.and, D.andf, D.or, D.orf, D.inr, D.var, D.lit, D.cellB, D.beq, D.beqf, D.litI, D.varI, D.add, D.sub, D.mul, D.min, D.max, D.cellI, D.i64min, D.i64max, Int.toNat_zero]; omega) (Sat.ob (by simp only [D.le, D.lef, D.lt, D.ltf, D.eq, D.eqf, D.not, D.notf, D.and, D.andf, D.or, D.orf, D.inr, D.var, D.lit, D.cellB, D.beq, D.beqf, D.litI, D.varI, D.add, D.sub, D.mul, D.min, D.max, D.cellI, D.i64min, D.i64max, Int.toNat_zero]; omega) (Sat.ob (by simp only [D.le, D.lef, D.lt, D.ltf, D.eq, D.eqf, D.not, D.notf, D.and, D.andf, D.or, D.orf, D.inr, D.var, D.lit, D.cellB, D.beq, D.beqf, D.litI, D.varI, D.add, D.sub, D.mul, D.min, D.max, D.cellI, D.i64min, D.i64max, Int.toNat_zero]; omega) (Sat.ob (by simp only [D.le, D.lef, D.lt, D.ltf, D.eq, D.eqf, D.not, D.notf, D.and, D.andf, D.or, D.orf, D.inr, D.var, D.lit, D.cellB, D.beq, D.beqf, D.litI, D.varI, D.add, D.sub, D.mul, D.min, D.max, D.cellI, D.i64min, D.i64max, Int.toNat_zero]; omega) (Sat.ob (nilOb hat.2.1.2.1) (Sat.new fun e1 hf => ?_)))))
        have hf1 := hf _ (List.mem_singleton.2 rfl)
        simp only [D.be, D.le, D.lef, D.lt, D.ltf, D.eq, D.eqf, D.not, D.notf, D.and, D.andf, D.or, D.orf, D.inr, D.var, D.lit, D.cellB, D.beq, D.beqf, D.litI, D.varI, D.add, D.sub, D.mul, D.min, D.max, D.cellI, D.i64min, D.i64max, Int.toNat_zero] at hf1
        replace hf1 : r.iv 5 + 1 ≤ (r.join 9 e1).iv 9 ∧ (r.join 9 e1).iv 9 ≤ 9223372036854775807 := hf1
        replace hat : eventsAt (r.join 9 e1) := hat
        replace hb : (recAt mkBt (r.join 9 e1) 3 ((r.join 9 e1).iv 8).toNat).begins = false := hb
        replace hd : (recAt mkBt (r.join 9 e1) 3 ((r.join 9 e1).iv 8).toNat).ends = true := hd
        replace hf1 : (r.join 9 e1).iv 5 + 1 ≤ (r.join 9 e1).iv 9 ∧ (r.join 9 e1).iv 9 ≤ 9223372036854775807 := hf1
        replace hm : ((r.join 9 e1).iv 1 - ((r.join 9 e1).iv 8 + 1)).toNat < (r.iv 1 - r.iv 8).toNat := hm
        replace o2 : 0 ≤ (r.join 9 e1).iv 5 := o2
        replace hp2 : (r.join 9 e1).iv 1 ≤ 1000000 := hp2
        replace i1 : 0 ≤ (r.join 9 e1).iv 8 := i1
        replace hlt : (r.join 9 e1).iv 8 < (r.join 9 e1).iv 1 := hlt
        clear o1 o3 o4 hf hnl i2 hp hlen
        generalize r.join 9 e1 = q at *
        refine Sat.ob (by simp only [D.le, D.lef, D.lt, D.ltf, D.eq, D.eqf, D.not, D.notf, D.and, D.andf, D.or, D.orf, D.inr, D.var, D.lit, D.cellB, D.beq, D.beqf, D.litI, D.varI, D.add, D.sub, D.mul, D.min, D.max, D.cellI, D.i64min, D.i64max, Int.toNat_zero]; omega) (Sat.back rfl ⟨hat.step rfl rfl rfl rfl ?_ ?_, hm⟩)
        · refine ⟨fun h => (by cases h), ?_, hf1.1, hf1.2⟩
          show 0 ≤ q.iv 5 + 1
          omega
        · have n1 : ∀ i, i < (q.iv 5).toNat → ¬ (q.iv 5).toNat = i := fun i hi => by omega
          refine (recs_push (x := ⟨(recAt mkBt q 3 (q.iv 8).toNat).thread, false, 0, 0, 0, 0, (recAt mkBt q 3 (q.iv 8).toNat).code, (recAt mkBt q 3 (q.iv 8).toNat).ans⟩) (b := 4) (ρ := q) o2 rfl (fun i hi => ?_) ?_).trans ?_
          · simp only [Nat.reduceAdd] at hi
            simp [recAt, mkEv, -Int.pred_toNat, Sub.nenv, assoc, CV.I, CV.B, upsI, upsB, Seg.I, Seg.B, SC.I, SC.B, IE.den, BE.den, n1 i hi]
          · simp only [Nat.reduceAdd]
            simp [recAt, mkEv, mkBt, -Int.pred_toNat, Sub.nenv, assoc, CV.I, CV.B, upsI, upsB, Seg.I, Seg.B, SC.I, SC.B, IE.den, BE.den]
          · simp [evsOf, hb, hd]
      · replace hd : (recAt mkBt r 3 (r.iv 8).toNat).ends = false := hd
        refine Sat.ob (by simp only [D.le, D.lef, D.lt, D.ltf, D.eq, D.eqf, D.not, D.notf, D.and, D.andf, D.or, D.orf, D.inr, D.var, D.lit, D.cellB, D.beq, D.beqf, D.litI, D.varI, D.add, D.sub, D.mul, D.min, D.max, D.cellI, D.i64min, D.i64max, Int.toNat_zero]; omega) (Sat.back rfl ⟨hat.step rfl rfl rfl rfl ⟨o1, o2, o3, o4⟩ ?_, hm⟩)
        have e1 : evsOf (recAt mkBt r 3 (r.iv 8).toNat) = [] := by simp [evsOf, hb, hd]
        rw [e1, List.append_nil]
        exact recs_same (ρ := r) (b := 4) rfl fun i _ => by simp [recAt, mkEv, -Int.pred_toNat, Sub.nenv, assoc, CV.I, CV.B, upsI, upsB, Seg.I, Seg.B, SC.I, SC.B, IE.den, BE.den]
  · replace hge : ¬ (ρ.join 4 e).iv 8 < (ρ.join 4 e).iv 1 := of_decide_eq_false hge
    replace hpre : eventsPre (ρ.join 4 e) := hpre
    replace hI : eventsInv (ρ.join 4 e) := hI
    generalize ρ.join 4 e = r at *
    obtain ⟨⟨i1, i2⟩, ho, hn⟩ := hI
    refine Sat.fin ⟨ho, ?_⟩
    have e1 := recs_full (mk := mkBt) r 0 (n := (r.iv 8).toNat) (by simp only [Nat.zero_add]; omega)
    rw [e1] at hn
    refine Eq.trans (recs_same (ρ := r) (b := 4) rfl fun i _ => ?_) hn
    simp [recAt, mkEv, -Int.pred_toNat, Sub.nenv, assoc, CV.I, CV.B, upsI, upsB, Seg.I, Seg.B, SC.I, SC.B, IE.den, BE.den]
theorem revents_con : ConOK Tryd.prog rEventsCon eventsPre eventsPost :=
  con_ok tabOK (E := reventsE) (cs := []) rfl (fun k pre post h => by cases h) schedOK rfl revents_run (by kernel_rfl) (fun ρ _ p hp => by cases hp) revents_sat
end Go.Proofs.YtjhnfmfajbghbaaDoor
