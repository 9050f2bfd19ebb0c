/- 'Whole', 'Same': what they leave -/
import Derived.Test.YtjhnfmfajbghbaaDoorAPl
import Derived.Test.YtjhnfmfajbghbaaDoorARows
import Derived.Test.YtjhnfmfajbghbaaDoorRexZ0
set_option linter.unusedSimpArgs false
set_option linter.unusedVariables false
namespace Go.Proofs.YtjhnfmfajbghbaaDoor
open Go.Rex
noncomputable def wholeE : Ex := { sched := sched, loops := [L14], fin := wholeCon }
def wholeOut : Out :=
  .ob (.or (.not (.var 0)) (.ieq (.var 1) (.lit 0))) <|
   .ob (.ile (.lit 0) (.var 1)) <|
   .loop 4 { lo := 4, lob := 1, iv := [(8, (.lit 0)), (6, (.lit 0)), (5, (.lit 0))], bv := [(4, (.lit true))], nb := [1] } <|
   .br (.ilt (.var 8) (.var 1))
   (.ob (.not (.var 0)) <|
    .ob (.ile (.lit 0) (.var 8)) <|
    .br (.cell 3 (.var 8) (.lit 0) 9)
    (.ob (.ile (.mul (.add (.var 5) (.lit 1)) (.lit 80)) (.lit 140737488355328)) <|
     .ob (.ile (.lit 0) (.var 5)) <|
     .ob (.ile (.var 5) (.var 6)) <|
     .ob (.ile (.var 6) (.lit 9223372036854775807)) <|
     .ob (.or (.not (.var 4)) (.ieq (.var 5) (.lit 0))) <|
     .new 9 [.be (.and (.ile (.add (.var 5) (.lit 1)) (.var 9)) (.ile (.var 9) (.lit 9223372036854775807)))] <|
     .ob (.inr .i64 (.add (.var 8) (.lit 1))) <|
     .back 0 { lo := 4, lob := 1, iv := [(8, (.add (.var 8) (.lit 1))), (6, (.var 9)), (5, (.add (.var 5) (.lit 1)))], bv := [(4, (.lit false))], ct := [(7, .up { r := 7, n1 := (.add (.var 5) (.lit 1)), s1 := 10, ks := [.int .i64, .int .i64, .int .i64, .int .i64, .int .i64, .int .i64, .int .i64, .int .i64, .int .i64, .bool] } 0 [⟨0, (.var 5), (.lit 0), 0, .int .i64 (.cell 3 (.var 8) (.lit 0) 0)⟩, ⟨0, (.var 5), (.lit 0), 1, .int .i64 (.cell 3 (.var 8) (.lit 0) 1)⟩, ⟨0, (.var 5), (.lit 0), 2, .int .i64 (.cell 3 (.var 8) (.lit 0) 2)⟩, ⟨0, (.var 5), (.lit 0), 3, .int .i64 (.cell 3 (.var 8) (.lit 0) 3)⟩, ⟨0, (.var 5), (.lit 0), 4, .int .i64 (.cell 3 (.var 8) (.lit 0) 4)⟩, ⟨0, (.var 5), (.lit 0), 5, .int .i64 (.cell 3 (.var 8) (.lit 0) 5)⟩, ⟨0, (.var 5), (.lit 0), 6, .int .i64 (.cell 3 (.var 8) (.lit 0) 6)⟩, ⟨0, (.var 5), (.lit 0), 7, .int .i64 (.cell 3 (.var 8) (.lit 0) 7)⟩, ⟨0, (.var 5), (.lit 0), 8, .int .i64 (.cell 3 (.var 8) (.lit 0) 8)⟩, ⟨0, (.var 5), (.lit 0), 9, .bool (.cell 3 (.var 8) (.lit 0) 9)⟩] (.lit 0))], bk := [(1, { blk := 4, i1 := (.lit 0), s1 := 10 })] })
    (.ob (.inr .i64 (.add (.var 8) (.lit 1))) <|
     .back 0 { lo := 4, lob := 1, iv := [(8, (.add (.var 8) (.lit 1))), (6, (.var 6)), (5, (.var 5))], bv := [(4, (.var 4))], ct := [(7, .up { r := 7, n1 := (.var 5), s1 := 10, ks := [.int .i64, .int .i64, .int .i64, .int .i64, .int .i64, .int .i64, .int .i64, .int .i64, .int .i64, .bool] } 0 [] (.lit 0))], bk := [(1, { blk := 1, i1 := (.lit 0), s1 := 10 })] }))
   (.fin { lo := 4, lob := 1, iv := [(6, (.var 6)), (5, (.var 5))], bv := [(4, (.var 4))], ct := [(7, .up { r := 7, n1 := (.var 5), s1 := 10, ks := [.int .i64, .int .i64, .int .i64, .int .i64, .int .i64, .int .i64, .int .i64, .int .i64, .int .i64, .bool] } 0 [] (.lit 0))], bk := [(1, { blk := 1, i1 := (.lit 0), s1 := 10 })] })
theorem whole_run : exec tab wholeE 8000 [] (cfg0 14 4 [] [] wholeCon.hp wholeCon.args) = wholeOut := by kernel_rfl
def wholePre (ρ : Env) : Prop := OkSl ρ 0 ∧ ρ.iv 1 ≤ 1000000
def wholePost (ρ : Env) : Prop := OkSl ρ 4 ∧ recs mkRw ρ 4 = wholeOf (recs mkRw ρ 0)
def wholeInv (ρ : Env) : Prop := (0 ≤ ρ.iv 8 ∧ ρ.iv 8 ≤ ρ.iv 1) ∧ OkSl ρ 4 ∧ recs mkRw ρ 4 = wholeOf ((recs mkRw ρ 0).take (ρ.iv 8).toNat)
def wholeAt (ρ : Env) : Prop := wholePre ρ ∧ wholeInv ρ ∧ ρ.iv 8 < ρ.iv 1
theorem wholeAt.len {ρ : Env} (h : wholeAt ρ) : ρ.iv 5 ≤ ρ.iv 8 := by
  obtain ⟨⟨a, a5⟩, ⟨⟨i1, i2⟩, o, n⟩, hlt⟩ := h
  have l := congrArg List.length n
  rw [recs_length] at l
  have h2 : (wholeOf ((recs mkRw ρ 0).take (ρ.iv 8).toNat)).length ≤ ((recs mkRw ρ 0).take (ρ.iv 8).toNat).length := List.length_filter_le _ _
  rw [List.length_take] at h2
  have h3 := o.2.1
  simp only [Nat.reduceAdd] at *
  omega
theorem wholeAt.step {ρ ρ' : Env} (h : wholeAt ρ) (h1 : ρ'.iv 1 = ρ.iv 1) (h3 : ρ'.ic 3 = ρ.ic 3) (h4 : ρ'.bc 3 = ρ.bc 3) (h8 : ρ'.iv 8 = ρ.iv 8 + 1) (ho : OkSl ρ' 4)
    (hr : recs mkRw ρ' 4 = recs mkRw ρ 4 ++ wholeOf [recAt mkRw ρ 3 (ρ.iv 8).toNat]) : wholeInv ρ' := by
  obtain ⟨⟨a, a5⟩, ⟨⟨i1, i2⟩, o, n⟩, hlt⟩ := h
  have e : recs mkRw ρ' 0 = recs mkRw ρ 0 := recs_same (by simpa using h1) fun i _ => by simp [recAt, h3, h4]
  refine ⟨⟨by omega, by omega⟩, ho, ?_⟩
  rw [hr, n, e, h8, show (ρ.iv 8 + 1).toNat = (ρ.iv 8).toNat + 1 by omega, recs_take (by simp only [Nat.zero_add]; omega)]
  simp only [wholeOf, List.filter_append]
theorem whole_sat (ρ : Env) (hpre : wholePre ρ.num) : Sat wholePost [] [] ρ wholeOut := by
  replace hpre : wholePre ρ := hpre
  unfold wholeOut
  refine Sat.ob (nilOb hpre.1) (Sat.ob (decide_eq_true hpre.1.2.1) (Sat.loopK wholeInv (fun r => (r.iv 1 - r.iv 8).toNat) wholePre ?_ (fun _ => hpre) fun r hp hI => Sat.br (fun hlt => ?_) (fun hge => ?_)))
  · have h2 := hpre.1.2.1
    simp only [Nat.zero_add] at h2
    simp [wholeInv, OkSl, recs, wholeOf, Sub.nenv, assoc, CV.I, CV.B, upsI, upsB, Seg.I, Seg.B, SC.I, SC.B, IE.den, BE.den, h2]
  · replace hI : wholeInv r := hI
    replace hlt : r.iv 8 < r.iv 1 := of_decide_eq_true hlt
    have hat : wholeAt r := ⟨hp, hI, hlt⟩
    rw [show (r.num.iv 1 - r.num.iv 8).toNat = (r.iv 1 - r.iv 8).toNat from rfl]
    have hlen := hat.len
    obtain ⟨⟨i1, i2⟩, ⟨o1, o2, o3, o4⟩, -⟩ := hI
    have hp2 := hp.2
    simp only [Nat.reduceAdd] at o1 o2 o3 o4
    have hm : (r.iv 1 - (r.iv 8 + 1)).toNat < (r.iv 1 - r.iv 8).toNat := by omega
    refine Sat.ob (nilLt hp.1 (by simp only [Nat.zero_add]; omega)) (Sat.ob (decide_eq_true i1) (Sat.br (fun hb => ?_) (fun hb => ?_)))
    · replace hb : (recAt mkRw r 3 (r.iv 8).toNat).done = true := hb
      refine Sat.ob (by simp only [D.le, D.lef, D.lt, D.ltf, D.eq, D.eqf, D.not, D.notf, D.and, D.andf, D.or, D.orf, D.inr, D.var, D.lit, D.cellB, D.beq, D.beqf, D.litI, D.varI, D.add, D.sub, D.mul, D.min, D.max, D.cellI, D.i64min, D.i64max]; omega) (Sat.ob (by simp only [D.le, D.lef, D.lt, D.ltf, D.eq, D.eqf, D.not, D.notf, D.and, D.andf, D.or, D.orf, D.inr, D.var, D.lit, D.cellB, D.beq, D.beqf, D.litI, D.varI, D.add, D.sub, D.mul, D.min, D.max, D.cellI, D.i64min, D.i64max]; omega) (Sat.ob (by simp only [D.le, D.lef, D.lt, D.ltf, D.eq, D.eqf, D.not, D.notf, D.and, D.andf, D.or, D.orf, D.inr, D.var, D.lit, D.cellB, D.beq, D.beqf, D.litI, D.varI, D.add, D.sub, D.mul, D.min, D.max, D.cellI, D.i64min, D.i64max]; omega) (Sat.ob (by simp only [D.le, D.lef, D.lt, D.ltf, D.eq, D.eqf, D.not, D.notf, D.and, D.andf, D.or, D.orf, D.inr, D.var, D.lit, D.cellB, D.beq, D.beqf, D.litI, D.varI, D.add, D.sub, D.mul, D.min, D.max, D.cellI, D.i64min, D.i64max]; omega) (Sat.ob (nilOb hat.2.1.2.1) (Sat.newB (fun q => wholeAt q ∧ (recAt mkRw q 3 (q.iv 8).toNat).done = true ∧ q.iv 5 ≤ q.iv 8 ∧ 0 ≤ q.iv 5 ∧ (q.iv 1 - (q.iv 8 + 1)).toNat < (r.iv 1 - r.iv 8).toNat) (fun _ => ⟨hat, hb, hlen, o2, hm⟩) fun q hq hf => ?_)))))
      obtain ⟨hat, hb, hlen, o2, hm⟩ := hq
      simp only [D.le, D.lef, D.lt, D.ltf, D.eq, D.eqf, D.not, D.notf, D.and, D.andf, D.or, D.orf, D.inr, D.var, D.lit, D.cellB, D.beq, D.beqf, D.litI, D.varI, D.add, D.sub, D.mul, D.min, D.max, D.cellI, D.i64min, D.i64max] at hf
      obtain ⟨⟨_, hp2⟩, ⟨⟨i1, i2⟩, _⟩, hlt⟩ := id hat
      refine Sat.ob (by simp only [D.le, D.lef, D.lt, D.ltf, D.eq, D.eqf, D.not, D.notf, D.and, D.andf, D.or, D.orf, D.inr, D.var, D.lit, D.cellB, D.beq, D.beqf, D.litI, D.varI, D.add, D.sub, D.mul, D.min, D.max, D.cellI, D.i64min, D.i64max]; omega) (Sat.back rfl ⟨hat.step rfl rfl rfl rfl ?_ ?_, hm⟩)
      · refine ⟨fun h => (by cases h), ?_, hf.1, hf.2⟩
        show 0 ≤ q.iv 5 + 1
        omega
      · have n1 : ∀ i, i < (q.iv 5).toNat → ¬ (q.iv 5).toNat = i := fun i hi => by omega
        refine (recs_push (x := recAt mkRw q 3 (q.iv 8).toNat) (b := 4) (ρ := q) o2 rfl (fun i hi => ?_) ?_).trans ?_
        · simp only [Nat.reduceAdd] at hi
          simp [recAt, mkRw, Sub.nenv, assoc, CV.I, CV.B, upsI, upsB, Seg.I, Seg.B, SC.I, SC.B, IE.den, BE.den, n1 i hi]
        · simp only [Nat.reduceAdd]
          simp [recAt, mkRw, Sub.nenv, assoc, CV.I, CV.B, upsI, upsB, Seg.I, Seg.B, SC.I, SC.B, IE.den, BE.den]
        · simp [wholeOf, hb]
    · replace hb : (recAt mkRw r 3 (r.iv 8).toNat).done = false := hb
      refine Sat.ob (by simp only [D.le, D.lef, D.lt, D.ltf, D.eq, D.eqf, D.not, D.notf, D.and, D.andf, D.or, D.orf, D.inr, D.var, D.lit, D.cellB, D.beq, D.beqf, D.litI, D.varI, D.add, D.sub, D.mul, D.min, D.max, D.cellI, D.i64min, D.i64max]; omega) (Sat.back rfl ⟨hat.step rfl rfl rfl rfl ⟨o1, o2, o3, o4⟩ ?_, hm⟩)
      have e1 : wholeOf [recAt mkRw r 3 (r.iv 8).toNat] = [] := by simp [wholeOf, hb]
      rw [e1, List.append_nil]
      exact recs_same (ρ := r) (b := 4) rfl fun i _ => by simp [recAt, mkRw, Sub.nenv, assoc, CV.I, CV.B, upsI, upsB, Seg.I, Seg.B, SC.I, SC.B, IE.den, BE.den]
  · replace hge : ¬ r.iv 8 < r.iv 1 := of_decide_eq_false hge
    replace hI : wholeInv r := hI
    obtain ⟨⟨i1, i2⟩, ho, hn⟩ := hI
    refine Sat.fin ⟨ho, ?_⟩
    have e1 := recs_full (mk := mkRw) r 0 (n := (r.iv 8).toNat) (by simp only [Nat.zero_add]; omega)
    rw [e1] at hn
    refine Eq.trans (recs_same (ρ := r) (b := 4) rfl fun i _ => ?_) hn
    simp [recAt, mkRw, Sub.nenv, assoc, CV.I, CV.B, upsI, upsB, Seg.I, Seg.B, SC.I, SC.B, IE.den, BE.den]
theorem whole_con : ConOK Tryd.prog wholeCon wholePre wholePost :=
  con_ok tabOK (E := wholeE) (cs := []) rfl (fun k pre post h => by cases h) schedOK rfl whole_run (by kernel_rfl) (fun ρ _ p hp => by cases hp) whole_sat
noncomputable def equalE : Ex := { sched := sched, loops := [L26], fin := equalCon }
def equalOut : Out :=
  .ob (.or (.not (.var 0)) (.ieq (.var 1) (.lit 0))) <|
   .ob (.ile (.lit 0) (.var 1)) <|
   .ob (.or (.not (.var 4)) (.ieq (.var 5) (.lit 0))) <|
   .ob (.ile (.lit 0) (.var 5)) <|
   .br (.not (.ieq (.var 1) (.var 5)))
   (.fin { lo := 8, lob := 2, bv := [(8, (.lit false))] })
   (.loop 8 { lo := 8, lob := 2, iv := [(8, (.lit 0))] } <|
    .br (.ilt (.var 8) (.var 1))
    (.ob (.not (.var 0)) <|
     .ob (.ile (.lit 0) (.var 8)) <|
     .ob (.not (.var 4)) <|
     .ob (.ilt (.var 8) (.var 5)) <|
     .br (.not (.and (.ieq (.cell 3 (.var 8) (.lit 0) 0) (.cell 7 (.var 8) (.lit 0) 0)) (.and (.and (.ieq (.cell 3 (.var 8) (.lit 0) 1) (.cell 7 (.var 8) (.lit 0) 1)) (.and (.ieq (.cell 3 (.var 8) (.lit 0) 2) (.cell 7 (.var 8) (.lit 0) 2)) (.and (.ieq (.cell 3 (.var 8) (.lit 0) 3) (.cell 7 (.var 8) (.lit 0) 3)) (.ieq (.cell 3 (.var 8) (.lit 0) 4) (.cell 7 (.var 8) (.lit 0) 4))))) (.and (.and (.ieq (.cell 3 (.var 8) (.lit 0) 5) (.cell 7 (.var 8) (.lit 0) 5)) (.ieq (.cell 3 (.var 8) (.lit 0) 6) (.cell 7 (.var 8) (.lit 0) 6))) (.and (.ieq (.cell 3 (.var 8) (.lit 0) 7) (.cell 7 (.var 8) (.lit 0) 7)) (.and (.ieq (.cell 3 (.var 8) (.lit 0) 8) (.cell 7 (.var 8) (.lit 0) 8)) (.beq (.cell 3 (.var 8) (.lit 0) 9) (.cell 7 (.var 8) (.lit 0) 9))))))))
     (.fin { lo := 8, lob := 2, bv := [(8, (.lit false))] })
     (.ob (.inr .i64 (.add (.var 8) (.lit 1))) <|
      .back 0 { lo := 8, lob := 2, iv := [(8, (.add (.var 8) (.lit 1)))] }))
    (.fin { lo := 8, lob := 2, bv := [(8, (.lit true))] }))
theorem equal_run : exec tab equalE 8000 [] (cfg0 26 8 [] [] equalCon.hp equalCon.args) = equalOut := by kernel_rfl
def equalPre (ρ : Env) : Prop := OkSl ρ 0 ∧ OkSl ρ 4
def equalPost (ρ : Env) : Prop := ρ.bv 8 = true ↔ recs mkRw ρ 0 = recs mkRw ρ 4
def equalInv (ρ : Env) : Prop := (0 ≤ ρ.iv 8 ∧ ρ.iv 8 ≤ ρ.iv 1) ∧ ∀ i : Nat, (i : Int) < ρ.iv 8 → recAt mkRw ρ 3 i = recAt mkRw ρ 7 i
theorem equal_sat (ρ : Env) (hpre : equalPre ρ.num) : Sat equalPost [] [] ρ equalOut := by
  replace hpre : equalPre ρ := hpre
  unfold equalOut
  refine Sat.ob (nilOb hpre.1) (Sat.ob (decide_eq_true hpre.1.2.1) (Sat.ob (nilOb hpre.2) (Sat.ob (decide_eq_true hpre.2.2.1) (Sat.br (fun hne => ?_) (fun heq => ?_)))))
  · refine Sat.fin ⟨fun h => (by cases h), fun h => ?_⟩
    have hl := congrArg List.length h
    replace hl : (recs mkRw ρ 0).length = (recs mkRw ρ 4).length := hl
    rw [recs_length, recs_length] at hl
    have a := hpre.1.2.1
    have b := hpre.2.2.1
    simp only [D.le, D.lef, D.lt, D.ltf, D.eq, D.eqf, D.not, D.notf, D.and, D.andf, D.or, D.orf, D.inr, D.var, D.lit, D.cellB, D.beq, D.beqf, D.litI, D.varI, D.add, D.sub, D.mul, D.min, D.max, D.cellI, D.i64min, D.i64max, Nat.zero_add, Nat.reduceAdd] at *
    omega
  · replace heq : ρ.iv 1 = ρ.iv 5 := by simpa only [D.le, D.lef, D.lt, D.ltf, D.eq, D.eqf, D.not, D.notf, D.and, D.andf, D.or, D.orf, D.inr, D.var, D.lit, D.cellB, D.beq, D.beqf, D.litI, D.varI, D.add, D.sub, D.mul, D.min, D.max, D.cellI, D.i64min, D.i64max] using heq
    refine Sat.loopK equalInv (fun r => (r.iv 1 - r.iv 8).toNat) (fun r => equalPre r ∧ r.iv 1 = r.iv 5) ⟨⟨Int.le_refl 0, hpre.1.2.1⟩, fun i hi => ?_⟩ (fun _ => ⟨hpre, heq⟩) fun r hK hI => ?_
    · have : (i : Int) < 0 := hi
      omega
    obtain ⟨hpre, heq⟩ := hK
    replace hI : equalInv r := hI
    rw [show (r.num.iv 1 - r.num.iv 8).toNat = (r.iv 1 - r.iv 8).toNat from rfl]
    obtain ⟨⟨i1, i2⟩, i3⟩ := hI
    refine Sat.br (fun hlt => ?_) (fun hge => ?_)
    · replace hlt : r.iv 8 < r.iv 1 := of_decide_eq_true hlt
      refine Sat.ob (nilLt hpre.1 (by simp only [Nat.zero_add]; omega)) (Sat.ob (decide_eq_true i1) (Sat.ob (nilLt hpre.2 (by simp only [Nat.reduceAdd]; omega)) (Sat.ob (decide_eq_true (by simp only [IE.den]; omega)) (Sat.br (fun hne => ?_) (fun hsame => ?_)))))
      · refine Sat.fin ⟨fun h => (by cases h), fun h => ?_⟩
        have h1 : (recs mkRw r 0)[(r.iv 8).toNat]? = (recs mkRw r 4)[(r.iv 8).toNat]? := congrArg (fun l => l[(r.iv 8).toNat]?) h
        rw [recs_get (by simp only [Nat.zero_add]; omega), recs_get (by simp only [Nat.reduceAdd]; omega)] at h1
        simp [recAt, mkRw] at h1
        simp [BE.den, IE.den, h1] at hne
      · have hle := hpre.1.2.2.2
        have hle2 := hpre.1.2.2.1
        simp only [Nat.zero_add, Nat.reduceAdd] at hle hle2
        refine Sat.ob (by simp only [D.le, D.lef, D.lt, D.ltf, D.eq, D.eqf, D.not, D.notf, D.and, D.andf, D.or, D.orf, D.inr, D.var, D.lit, D.cellB, D.beq, D.beqf, D.litI, D.varI, D.add, D.sub, D.mul, D.min, D.max, D.cellI, D.i64min, D.i64max]; omega) (Sat.back rfl ⟨⟨⟨?_, ?_⟩, fun i hi => ?_⟩, ?_⟩)
        · show 0 ≤ r.iv 8 + 1
          omega
        · show r.iv 8 + 1 ≤ r.iv 1
          omega
        · replace hi : (i : Int) < r.iv 8 + 1 := hi
          show recAt mkRw r 3 i = recAt mkRw r 7 i
          by_cases h : (i : Int) < r.iv 8
          · exact i3 i h
          · have hi2 : i = (r.iv 8).toNat := by omega
            subst hi2
            simp [BE.den, IE.den] at hsame
            simp [recAt, mkRw, hsame]
        · show (r.iv 1 - (r.iv 8 + 1)).toNat < (r.iv 1 - r.iv 8).toNat
          omega
    · replace hge : ¬ r.iv 8 < r.iv 1 := of_decide_eq_false hge
      refine Sat.fin ⟨fun _ => ?_, fun _ => rfl⟩
      show recs mkRw r 0 = recs mkRw r 4
      exact recs_same (by simp only [Nat.zero_add, Nat.reduceAdd]; exact heq) fun i hi => i3 i (by simp only [Nat.reduceAdd] at hi; omega)
theorem equal_con : ConOK Tryd.prog equalCon equalPre equalPost :=
  con_ok tabOK (E := equalE) (cs := []) rfl (fun k pre post h => by cases h) schedOK rfl equal_run (by kernel_rfl) (fun ρ _ p hp => by cases hp) equal_sat
end Go.Proofs.YtjhnfmfajbghbaaDoor
