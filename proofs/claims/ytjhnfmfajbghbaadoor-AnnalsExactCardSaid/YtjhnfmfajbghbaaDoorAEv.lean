/- 'awake', 'Events', 'Alike': what they leave -/
import Derived.Test.YtjhnfmfajbghbaaDoorASp
import Derived.Test.YtjhnfmfajbghbaaDoorIs
import Derived.Test.YtjhnfmfajbghbaaDoorAPl
set_option linter.unusedSimpArgs false
set_option linter.unusedVariables false
namespace Go.Proofs.YtjhnfmfajbghbaaDoor
open Go.Rex
def yesPre (_ : Env) : Prop := True
theorem is_con : ConOK Tryd.prog isCon yesPre yesPre := by
  refine con_pure ⟨_, Tryd.func21, by kernel_rfl, by kernel_rfl⟩ rfl (fun ρ ν w hhp _ _ => ?_) fun _ _ => trivial
  obtain ⟨-, cs, hcs, hrd⟩ := hhp.rd 0 _ rfl rfl rfl
  have h1 := hrd 1 _ (hcs.ex 1 _ rfl rfl)
  have e0 : SA.den ρ ν { blk := 0 } = ν 0 := by simp [SA.den, SA.off, IE.den, Addr.add_zero]
  have e1 : SA.den ρ ν { blk := 1 } = ν 1 := by simp [SA.den, SA.off, IE.den, Addr.add_zero]
  have h2 : w.cell? ⟨(ν 0).block, (ν 0).off + 1, none⟩ = some (.iface 85 (.pointer (some (ν 1)))) := by
    have h1 : w.cell? ((ν 0).add 1) = some (.iface 85 (.pointer (some (SA.den ρ ν { blk := 1 })))) := h1
    rw [e1] at h1
    exact h1
  have hc := is_wrap_same (ν 0) (ν 1) w h2
  show Calls Tryd.prog 21 #[.iface 71 (.pointer (some (SA.den ρ ν { blk := 0 }))), .iface 85 (.pointer (some (SA.den ρ ν { blk := 1 })))] w _
  rw [e0, e1]
  exact hc
noncomputable def awakeE : Ex := { sched := sched, loops := [], cons := [isCon], fin := awakeCon }
def awakeOut : Out :=
  .new 1 [.be (.and (.ile (.lit 1) (.var 1)) (.ile (.var 1) (.lit 9223372036854775807)))] <|
   .new 2 [.be (.and (.ile (.lit 2) (.var 2)) (.ile (.var 2) (.lit 9223372036854775807)))] <|
   .new 3 [.be (.and (.ile (.lit 1) (.var 3)) (.ile (.var 3) (.lit 9223372036854775807)))] <|
   .new 4 [.be (.and (.ile (.lit 1) (.var 4)) (.ile (.var 4) (.lit 9223372036854775807)))] <|
   .new 5 [.be (.and (.ile (.lit 2) (.var 5)) (.ile (.var 5) (.lit 9223372036854775807)))] <|
   .call 0 { lo := 0, lob := 0, iv := [(0, (.lit 0))], bk := [(1, { blk := 1 }), (0, { blk := 17 })] } 6 <|
   .new 6 [.be (.and (.ile (.lit 1) (.var 6)) (.ile (.var 6) (.lit 9223372036854775807)))] <|
   .fin { lo := 1, lob := 2 }
theorem awake_run : exec tab awakeE 8000 [] (cfg0 8 1 [] (sentGl ssS 0) awakeCon.hp awakeCon.args) = awakeOut := by kernel_rfl
theorem awake_con : ConOK Tryd.prog awakeCon yesPre yesPre :=
  con_ok tabOK (E := awakeE) (cs := [(isCon, yesPre, yesPre)]) rfl (fun k pre post h => by
    cases h with
    | head => exact ⟨by kernel_rfl, is_con⟩
    | tail _ h => cases h) schedOK rfl awake_run (by kernel_rfl) (fun ρ _ p hp => by cases hp) fun ρ _ => by
      unfold awakeOut
      repeat' first
        | refine Sat.new fun _ _ => ?_
        | refine Sat.call rfl trivial fun _ _ => ?_
        | exact Sat.fin trivial
noncomputable def alikeE : Ex := { sched := sched, loops := [L11], fin := alikeCon }
def alikeOut : Out :=
  .ob (.or (.not (.var 0)) (.ieq (.var 1) (.lit 0))) <|
   .ob (.ile (.lit 0) (.var 1)) <|
   .ob (.or (.not (.var 4)) (.ieq (.var 5) (.lit 0))) <|
   .ob (.ile (.lit 0) (.var 5)) <|
   .br (.not (.ieq (.var 1) (.var 5)))
   (.fin { lo := 8, lob := 2, bv := [(8, (.lit false))] })
   (.loop 8 { lo := 8, lob := 2, iv := [(8, (.lit 0))] } <|
    .br (.ilt (.var 8) (.var 1))
    (.ob (.not (.var 0)) <|
     .ob (.ile (.lit 0) (.var 8)) <|
     .ob (.not (.var 4)) <|
     .ob (.ilt (.var 8) (.var 5)) <|
     .br (.not (.and (.ieq (.cell 3 (.var 8) (.lit 0) 0) (.cell 7 (.var 8) (.lit 0) 0)) (.and (.beq (.cell 3 (.var 8) (.lit 0) 1) (.cell 7 (.var 8) (.lit 0) 1)) (.and (.and (.ieq (.cell 3 (.var 8) (.lit 0) 2) (.cell 7 (.var 8) (.lit 0) 2)) (.and (.ieq (.cell 3 (.var 8) (.lit 0) 3) (.cell 7 (.var 8) (.lit 0) 3)) (.and (.ieq (.cell 3 (.var 8) (.lit 0) 4) (.cell 7 (.var 8) (.lit 0) 4)) (.ieq (.cell 3 (.var 8) (.lit 0) 5) (.cell 7 (.var 8) (.lit 0) 5))))) (.and (.ieq (.cell 3 (.var 8) (.lit 0) 6) (.cell 7 (.var 8) (.lit 0) 6)) (.ieq (.cell 3 (.var 8) (.lit 0) 7) (.cell 7 (.var 8) (.lit 0) 7)))))))
     (.fin { lo := 8, lob := 2, bv := [(8, (.lit false))] })
     (.ob (.inr .i64 (.add (.var 8) (.lit 1))) <|
      .back 0 { lo := 8, lob := 2, iv := [(8, (.add (.var 8) (.lit 1)))] }))
    (.fin { lo := 8, lob := 2, bv := [(8, (.lit true))] }))
theorem alike_run : exec tab alikeE 8000 [] (cfg0 11 8 [] [] alikeCon.hp alikeCon.args) = alikeOut := by kernel_rfl
def alikePre (ρ : Env) : Prop := OkSl ρ 0 ∧ OkSl ρ 4
def alikePost (ρ : Env) : Prop := ρ.bv 8 = true ↔ recs mkEv ρ 0 = recs mkEv ρ 4
def alikeInv (ρ : Env) : Prop := (0 ≤ ρ.iv 8 ∧ ρ.iv 8 ≤ ρ.iv 1) ∧ ∀ i : Nat, (i : Int) < ρ.iv 8 → recAt mkEv ρ 3 i = recAt mkEv ρ 7 i
theorem alike_sat (ρ : Env) (hpre : alikePre ρ.num) : Sat alikePost [] [] ρ alikeOut := by
  replace hpre : alikePre ρ := hpre
  unfold alikeOut
  refine Sat.ob (nilOb hpre.1) (Sat.ob (decide_eq_true hpre.1.2.1) (Sat.ob (nilOb hpre.2) (Sat.ob (decide_eq_true hpre.2.2.1) (Sat.br (fun hne => ?_) (fun heq => ?_)))))
  · refine Sat.fin ⟨fun h => (by cases h), fun h => ?_⟩
    have hl := congrArg List.length h
    replace hl : (recs mkEv ρ 0).length = (recs mkEv ρ 4).length := hl
    rw [recs_length, recs_length] at hl
    have a := hpre.1.2.1
    have b := hpre.2.2.1
    simp only [D.le, D.lef, D.lt, D.ltf, D.eq, D.eqf, D.not, D.notf, D.and, D.andf, D.or, D.orf, D.inr, D.var, D.lit, D.cellB, D.beq, D.beqf, D.litI, D.varI, D.add, D.sub, D.mul, D.min, D.max, D.cellI, D.i64min, D.i64max, Nat.zero_add, Nat.reduceAdd] at *
    omega
  · replace heq : ρ.iv 1 = ρ.iv 5 := by simpa only [D.le, D.lef, D.lt, D.ltf, D.eq, D.eqf, D.not, D.notf, D.and, D.andf, D.or, D.orf, D.inr, D.var, D.lit, D.cellB, D.beq, D.beqf, D.litI, D.varI, D.add, D.sub, D.mul, D.min, D.max, D.cellI, D.i64min, D.i64max] using heq
    refine Sat.loop alikeInv (fun r => (r.iv 1 - r.iv 8).toNat) ⟨⟨Int.le_refl 0, hpre.1.2.1⟩, fun i hi => ?_⟩ fun e hI => ?_
    · have : (i : Int) < 0 := hi
      omega
    replace hpre : alikePre (ρ.join 8 e) := hpre
    replace hI : alikeInv (ρ.join 8 e) := hI
    replace heq : (ρ.join 8 e).iv 1 = (ρ.join 8 e).iv 5 := heq
    rw [show ((ρ.join 8 e).num.iv 1 - (ρ.join 8 e).num.iv 8).toNat = ((ρ.join 8 e).iv 1 - (ρ.join 8 e).iv 8).toNat from rfl]
    generalize ρ.join 8 e = r at *
    obtain ⟨⟨i1, i2⟩, i3⟩ := hI
    refine Sat.br (fun hlt => ?_) (fun hge => ?_)
    · replace hlt : r.iv 8 < r.iv 1 := of_decide_eq_true hlt
      refine Sat.ob (nilLt hpre.1 (by simp only [Nat.zero_add]; omega)) (Sat.ob (decide_eq_true i1) (Sat.ob (nilLt hpre.2 (by simp only [Nat.reduceAdd]; omega)) (Sat.ob (decide_eq_true (by simp only [IE.den]; omega)) (Sat.br (fun hne => ?_) (fun hsame => ?_)))))
      · refine Sat.fin ⟨fun h => (by cases h), fun h => ?_⟩
        have h1 : (recs mkEv r 0)[(r.iv 8).toNat]? = (recs mkEv r 4)[(r.iv 8).toNat]? := congrArg (fun l => l[(r.iv 8).toNat]?) h
        rw [recs_get (by simp only [Nat.zero_add]; omega), recs_get (by simp only [Nat.reduceAdd]; omega)] at h1
        simp [recAt, mkEv] at h1
        simp [BE.den, IE.den, h1] at hne
      · have hle := hpre.1.2.2.2
        have hle2 := hpre.1.2.2.1
        simp only [Nat.zero_add, Nat.reduceAdd] at hle hle2
        refine Sat.ob (by simp only [D.le, D.lef, D.lt, D.ltf, D.eq, D.eqf, D.not, D.notf, D.and, D.andf, D.or, D.orf, D.inr, D.var, D.lit, D.cellB, D.beq, D.beqf, D.litI, D.varI, D.add, D.sub, D.mul, D.min, D.max, D.cellI, D.i64min, D.i64max]; omega) (Sat.back rfl ⟨⟨⟨?_, ?_⟩, fun i hi => ?_⟩, ?_⟩)
        · show 0 ≤ r.iv 8 + 1
          omega
        · show r.iv 8 + 1 ≤ r.iv 1
          omega
        · replace hi : (i : Int) < r.iv 8 + 1 := hi
          show recAt mkEv r 3 i = recAt mkEv r 7 i
          by_cases h : (i : Int) < r.iv 8
          · exact i3 i h
          · have hi2 : i = (r.iv 8).toNat := by omega
            subst hi2
            simp [BE.den, IE.den] at hsame
            simp [recAt, mkEv, hsame]
        · show (r.iv 1 - (r.iv 8 + 1)).toNat < (r.iv 1 - r.iv 8).toNat
          omega
    · replace hge : ¬ r.iv 8 < r.iv 1 := of_decide_eq_false hge
      refine Sat.fin ⟨fun _ => ?_, fun _ => rfl⟩
      show recs mkEv r 0 = recs mkEv r 4
      exact recs_same (by simp only [Nat.zero_add, Nat.reduceAdd]; exact heq) fun i hi => i3 i (by simp only [Nat.reduceAdd] at hi; omega)
theorem alike_con : ConOK Tryd.prog alikeCon alikePre alikePost :=
  con_ok tabOK (E := alikeE) (cs := []) rfl (fun k pre post h => by cases h) schedOK rfl alike_run (by kernel_rfl) (fun ρ _ p hp => by cases hp) alike_sat
end Go.Proofs.YtjhnfmfajbghbaaDoor

set_option linter.unusedSimpArgs false
set_option linter.unusedVariables false
namespace Go.Proofs.YtjhnfmfajbghbaaDoor
open Go.Rex
noncomputable def eventsE : Ex := { sched := sched, loops := [L15], fin := eventsCon }
def eventsOut : Out :=
  .ob (.or (.not (.var 0)) (.ieq (.var 1) (.lit 0))) <|
   .ob (.ile (.lit 0) (.var 1)) <|
   .loop 4 { lo := 4, lob := 1, iv := [(8, (.lit 0)), (6, (.lit 0)), (5, (.lit 0))], bv := [(4, (.lit true))], nb := [1] } <|
   .br (.ilt (.var 8) (.var 1))
   (.ob (.not (.var 0)) <|
    .ob (.ile (.lit 0) (.var 8)) <|
    .br (.cell 3 (.var 8) (.lit 0) 1)
    (.ob (.ile (.mul (.add (.var 5) (.lit 1)) (.lit 64)) (.lit 140737488355328)) <|
     .ob (.ile (.lit 0) (.var 5)) <|
     .ob (.ile (.var 5) (.var 6)) <|
     .ob (.ile (.var 6) (.lit 9223372036854775807)) <|
     .ob (.or (.not (.var 4)) (.ieq (.var 5) (.lit 0))) <|
     .new 9 [.be (.and (.ile (.add (.var 5) (.lit 1)) (.var 9)) (.ile (.var 9) (.lit 9223372036854775807)))] <|
     .br (.cell 3 (.var 8) (.lit 0) 7)
     (.ob (.ile (.mul (.add (.add (.var 5) (.lit 1)) (.lit 1)) (.lit 64)) (.lit 140737488355328)) <|
      .ob (.ile (.lit 0) (.add (.var 5) (.lit 1))) <|
      .new 10 [.be (.and (.ile (.add (.add (.var 5) (.lit 1)) (.lit 1)) (.var 10)) (.ile (.var 10) (.lit 9223372036854775807)))] <|
      .ob (.inr .i64 (.add (.var 8) (.lit 1))) <|
      .back 0 { lo := 4, lob := 1, iv := [(8, (.add (.var 8) (.lit 1))), (6, (.var 10)), (5, (.add (.add (.var 5) (.lit 1)) (.lit 1)))], bv := [(4, (.lit false))], ct := [(7, .up { r := 7, n1 := (.add (.add (.var 5) (.lit 1)) (.lit 1)), s1 := 8, ks := [.int .i64, .bool, .int .i64, .int .i64, .int .i64, .int .i64, .int .i64, .int .i64] } 0 [⟨0, (.add (.var 5) (.lit 1)), (.lit 0), 0, .int .i64 (.cell 3 (.var 8) (.lit 0) 0)⟩, ⟨0, (.add (.var 5) (.lit 1)), (.lit 0), 1, .bool (.lit false)⟩, ⟨0, (.add (.var 5) (.lit 1)), (.lit 0), 2, .int .i64 (.lit 0)⟩, ⟨0, (.add (.var 5) (.lit 1)), (.lit 0), 3, .int .i64 (.lit 0)⟩, ⟨0, (.add (.var 5) (.lit 1)), (.lit 0), 4, .int .i64 (.lit 0)⟩, ⟨0, (.add (.var 5) (.lit 1)), (.lit 0), 5, .int .i64 (.lit 0)⟩, ⟨0, (.add (.var 5) (.lit 1)), (.lit 0), 6, .int .i64 (.cell 3 (.var 8) (.lit 0) 8)⟩, ⟨0, (.add (.var 5) (.lit 1)), (.lit 0), 7, .int .i64 (.cell 3 (.var 8) (.lit 0) 9)⟩, ⟨0, (.var 5), (.lit 0), 0, .int .i64 (.cell 3 (.var 8) (.lit 0) 0)⟩, ⟨0, (.var 5), (.lit 0), 1, .bool (.lit true)⟩, ⟨0, (.var 5), (.lit 0), 2, .int .i64 (.cell 3 (.var 8) (.lit 0) 2)⟩, ⟨0, (.var 5), (.lit 0), 3, .int .i64 (.cell 3 (.var 8) (.lit 0) 3)⟩, ⟨0, (.var 5), (.lit 0), 4, .int .i64 (.cell 3 (.var 8) (.lit 0) 4)⟩, ⟨0, (.var 5), (.lit 0), 5, .int .i64 (.cell 3 (.var 8) (.lit 0) 5)⟩, ⟨0, (.var 5), (.lit 0), 6, .int .i64 (.lit 0)⟩, ⟨0, (.var 5), (.lit 0), 7, .int .i64 (.lit 0)⟩] (.lit 0))], bk := [(1, { blk := 6, i1 := (.lit 0), s1 := 8 })] })
     (.ob (.inr .i64 (.add (.var 8) (.lit 1))) <|
      .back 0 { lo := 4, lob := 1, iv := [(8, (.add (.var 8) (.lit 1))), (6, (.var 9)), (5, (.add (.var 5) (.lit 1)))], bv := [(4, (.lit false))], ct := [(7, .up { r := 7, n1 := (.add (.var 5) (.lit 1)), s1 := 8, ks := [.int .i64, .bool, .int .i64, .int .i64, .int .i64, .int .i64, .int .i64, .int .i64] } 0 [⟨0, (.var 5), (.lit 0), 0, .int .i64 (.cell 3 (.var 8) (.lit 0) 0)⟩, ⟨0, (.var 5), (.lit 0), 1, .bool (.lit true)⟩, ⟨0, (.var 5), (.lit 0), 2, .int .i64 (.cell 3 (.var 8) (.lit 0) 2)⟩, ⟨0, (.var 5), (.lit 0), 3, .int .i64 (.cell 3 (.var 8) (.lit 0) 3)⟩, ⟨0, (.var 5), (.lit 0), 4, .int .i64 (.cell 3 (.var 8) (.lit 0) 4)⟩, ⟨0, (.var 5), (.lit 0), 5, .int .i64 (.cell 3 (.var 8) (.lit 0) 5)⟩, ⟨0, (.var 5), (.lit 0), 6, .int .i64 (.lit 0)⟩, ⟨0, (.var 5), (.lit 0), 7, .int .i64 (.lit 0)⟩] (.lit 0))], bk := [(1, { blk := 4, i1 := (.lit 0), s1 := 8 })] }))
    (.br (.cell 3 (.var 8) (.lit 0) 7)
     (.ob (.ile (.mul (.add (.var 5) (.lit 1)) (.lit 64)) (.lit 140737488355328)) <|
      .ob (.ile (.lit 0) (.var 5)) <|
      .ob (.ile (.var 5) (.var 6)) <|
      .ob (.ile (.var 6) (.lit 9223372036854775807)) <|
      .ob (.or (.not (.var 4)) (.ieq (.var 5) (.lit 0))) <|
      .new 9 [.be (.and (.ile (.add (.var 5) (.lit 1)) (.var 9)) (.ile (.var 9) (.lit 9223372036854775807)))] <|
      .ob (.inr .i64 (.add (.var 8) (.lit 1))) <|
      .back 0 { lo := 4, lob := 1, iv := [(8, (.add (.var 8) (.lit 1))), (6, (.var 9)), (5, (.add (.var 5) (.lit 1)))], bv := [(4, (.lit false))], ct := [(7, .up { r := 7, n1 := (.add (.var 5) (.lit 1)), s1 := 8, ks := [.int .i64, .bool, .int .i64, .int .i64, .int .i64, .int .i64, .int .i64, .int .i64] } 0 [⟨0, (.var 5), (.lit 0), 0, .int .i64 (.cell 3 (.var 8) (.lit 0) 0)⟩, ⟨0, (.var 5), (.lit 0), 1, .bool (.lit false)⟩, ⟨0, (.var 5), (.lit 0), 2, .int .i64 (.lit 0)⟩, ⟨0, (.var 5), (.lit 0), 3, .int .i64 (.lit 0)⟩, ⟨0, (.var 5), (.lit 0), 4, .int .i64 (.lit 0)⟩, ⟨0, (.var 5), (.lit 0), 5, .int .i64 (.lit 0)⟩, ⟨0, (.var 5), (.lit 0), 6, .int .i64 (.cell 3 (.var 8) (.lit 0) 8)⟩, ⟨0, (.var 5), (.lit 0), 7, .int .i64 (.cell 3 (.var 8) (.lit 0) 9)⟩] (.lit 0))], bk := [(1, { blk := 4, i1 := (.lit 0), s1 := 8 })] })
     (.ob (.inr .i64 (.add (.var 8) (.lit 1))) <|
      .back 0 { lo := 4, lob := 1, iv := [(8, (.add (.var 8) (.lit 1))), (6, (.var 6)), (5, (.var 5))], bv := [(4, (.var 4))], ct := [(7, .up { r := 7, n1 := (.var 5), s1 := 8, ks := [.int .i64, .bool, .int .i64, .int .i64, .int .i64, .int .i64, .int .i64, .int .i64] } 0 [] (.lit 0))], bk := [(1, { blk := 1, i1 := (.lit 0), s1 := 8 })] })))
   (.fin { lo := 4, lob := 1, iv := [(6, (.var 6)), (5, (.var 5))], bv := [(4, (.var 4))], ct := [(7, .up { r := 7, n1 := (.var 5), s1 := 8, ks := [.int .i64, .bool, .int .i64, .int .i64, .int .i64, .int .i64, .int .i64, .int .i64] } 0 [] (.lit 0))], bk := [(1, { blk := 1, i1 := (.lit 0), s1 := 8 })] })
theorem events_run : exec tab eventsE 8000 [] (cfg0 15 4 [] [] eventsCon.hp eventsCon.args) = eventsOut := by kernel_rfl
def eventsPre (ρ : Env) : Prop := OkSl ρ 0 ∧ ρ.iv 1 ≤ 1000000
def eventsPost (ρ : Env) : Prop := OkSl ρ 4 ∧ recs mkEv ρ 4 = (recs mkBt ρ 0).flatMap evsOf
def eventsInv (ρ : Env) : Prop := (0 ≤ ρ.iv 8 ∧ ρ.iv 8 ≤ ρ.iv 1) ∧ OkSl ρ 4 ∧ recs mkEv ρ 4 = ((recs mkBt ρ 0).take (ρ.iv 8).toNat).flatMap evsOf
def eventsAt (ρ : Env) : Prop := eventsPre ρ ∧ eventsInv ρ ∧ ρ.iv 8 < ρ.iv 1
theorem eventsAt.len {ρ : Env} (h : eventsAt ρ) : ρ.iv 5 ≤ 2 * ρ.iv 8 := by
  obtain ⟨⟨a, a5⟩, ⟨⟨i1, i2⟩, o, n⟩, hlt⟩ := h
  have l := congrArg List.length n
  rw [recs_length] at l
  have := flat_len ((recs mkBt ρ 0).take (ρ.iv 8).toNat)
  rw [List.length_take] at this
  simp only [Nat.reduceAdd] at *
  omega
theorem eventsAt.step {ρ ρ' : Env} (h : eventsAt ρ) (h1 : ρ'.iv 1 = ρ.iv 1) (h3 : ρ'.ic 3 = ρ.ic 3) (h4 : ρ'.bc 3 = ρ.bc 3) (h8 : ρ'.iv 8 = ρ.iv 8 + 1) (ho : OkSl ρ' 4)
    (hr : recs mkEv ρ' 4 = recs mkEv ρ 4 ++ evsOf (recAt mkBt ρ 3 (ρ.iv 8).toNat)) : eventsInv ρ' := by
  obtain ⟨⟨a, a5⟩, ⟨⟨i1, i2⟩, o, n⟩, hlt⟩ := h
  have e : recs mkBt ρ' 0 = recs mkBt ρ 0 := recs_same (by simpa using h1) fun i _ => by simp [recAt, h3, h4]
  refine ⟨⟨by omega, by omega⟩, ho, ?_⟩
  rw [hr, n, e, h8, show (ρ.iv 8 + 1).toNat = (ρ.iv 8).toNat + 1 by omega, recs_take (by simp only [Nat.zero_add]; omega), List.flatMap_append]
  simp
set_option maxHeartbeats 1000000 in
theorem events_sat (ρ : Env) (hpre : eventsPre ρ.num) : Sat eventsPost [] [] ρ eventsOut := by
  replace hpre : eventsPre ρ := hpre
  unfold eventsOut
  refine Sat.ob (nilOb hpre.1) (Sat.ob (decide_eq_true hpre.1.2.1) (Sat.loop eventsInv (fun r => (r.iv 1 - r.iv 8).toNat) ?_ fun e hI => Sat.br (fun hlt => ?_) (fun hge => ?_)))
  · have h2 := hpre.1.2.1
    simp only [Nat.zero_add] at h2
    simp [eventsInv, OkSl, recs, Sub.nenv, assoc, CV.I, CV.B, upsI, upsB, Seg.I, Seg.B, SC.I, SC.B, IE.den, BE.den, h2]
  · replace hpre : eventsPre (ρ.join 4 e) := hpre
    replace hI : eventsInv (ρ.join 4 e) := hI
    replace hlt : (ρ.join 4 e).iv 8 < (ρ.join 4 e).iv 1 := of_decide_eq_true hlt
    have hat : eventsAt (ρ.join 4 e) := ⟨hpre, hI, hlt⟩
    clear hpre hI hlt
    rw [show ((ρ.join 4 e).num.iv 1 - (ρ.join 4 e).num.iv 8).toNat = ((ρ.join 4 e).iv 1 - (ρ.join 4 e).iv 8).toNat from rfl]
    generalize ρ.join 4 e = r at *
    have hlen := hat.len
    have hp := hat.1
    obtain ⟨⟨i1, i2⟩, ⟨o1, o2, o3, o4⟩, -⟩ := hat.2.1
    have hlt := hat.2.2
    have hp2 := hp.2
    simp only [Nat.reduceAdd] at o1 o2 o3 o4
    have hm : (r.iv 1 - (r.iv 8 + 1)).toNat < (r.iv 1 - r.iv 8).toNat := by omega
    have hnl := nilLt hp.1 (by simp only [Nat.zero_add]; omega)
    refine Sat.ob hnl (Sat.ob (decide_eq_true i1) (Sat.br (fun hb => ?_) (fun hb => ?_)))
    · replace hb : (recAt mkBt r 3 (r.iv 8).toNat).begins = true := hb
      refine Sat.ob (by simp only [D.le, D.lef, D.lt, D.ltf, D.eq, D.eqf, D.not, D.notf, D.and, D.andf, D.or, D.orf, D.inr, D.var, D.lit, D.cellB, D.beq, D.beqf, D.litI, D.varI, D.add, D.sub, D.mul, D.min, D.max, D.cellI, D.i64min, D.i64max]; omega) (Sat.ob (by simp only [D.le, D.lef, D.lt, D.ltf, D.eq, D.eqf, D.not, D.notf, D.and, D.andf, D.or, D.orf, D.inr, D.var, D.lit, D.cellB, D.beq, D.beqf, D.litI, D.varI, D.add, D.sub, D.mul, D.min, D.max, D.cellI, D.i64min, D.i64max]; omega) (Sat.ob (by simp only [D.le, D.lef, D.lt, D.ltf, D.eq, D.eqf, D.not, D.notf, D.and, D.andf, D.or, D.orf, D.inr, D.var, D.lit, D.cellB, D.beq, D.beqf, D.litI, D.varI, D.add, D.sub, D.mul, D.min, D.max, D.cellI, D.i64min, D.i64max]; omega) (Sat.ob (by simp only [D.le, D.lef, D.lt, D.ltf, D.eq, D.eqf, D.not, D.notf, D.and, D.andf, D.or, D.orf, D.inr, D.var, D.lit, D.cellB, D.beq, D.beqf, D.litI, D.varI, D.add, D.sub, D.mul, D.min, D.max, D.cellI, D.i64min, D.i64max]; omega) (Sat.ob (nilOb hat.2.1.2.1) (Sat.new fun e1 hf => ?_)))))
      have hf1 := hf _ (List.mem_singleton.2 rfl)
      simp only [D.be, D.le, D.lef, D.lt, D.ltf, D.eq, D.eqf, D.not, D.notf, D.and, D.andf, D.or, D.orf, D.inr, D.var, D.lit, D.cellB, D.beq, D.beqf, D.litI, D.varI, D.add, D.sub, D.mul, D.min, D.max, D.cellI, D.i64min, D.i64max] at hf1
      replace hf1 : r.iv 5 + 1 ≤ (r.join 9 e1).iv 9 ∧ (r.join 9 e1).iv 9 ≤ 9223372036854775807 := hf1
      replace hat : eventsAt (r.join 9 e1) := hat
      replace hb : (recAt mkBt (r.join 9 e1) 3 ((r.join 9 e1).iv 8).toNat).begins = true := hb
      replace hlen : (r.join 9 e1).iv 5 ≤ 2 * (r.join 9 e1).iv 8 := hlen
      replace hf1 : (r.join 9 e1).iv 5 + 1 ≤ (r.join 9 e1).iv 9 ∧ (r.join 9 e1).iv 9 ≤ 9223372036854775807 := hf1
      replace hm : ((r.join 9 e1).iv 1 - ((r.join 9 e1).iv 8 + 1)).toNat < (r.iv 1 - r.iv 8).toNat := hm
      replace o2 : 0 ≤ (r.join 9 e1).iv 5 := o2
      replace hp2 : (r.join 9 e1).iv 1 ≤ 1000000 := hp2
      replace i1 : 0 ≤ (r.join 9 e1).iv 8 := i1
      replace hlt : (r.join 9 e1).iv 8 < (r.join 9 e1).iv 1 := hlt
      clear o1 o3 o4 hf hnl i2 hp
      generalize r.join 9 e1 = q at *
      refine Sat.br (fun hd => ?_) (fun hd => ?_)
      · replace hd : (recAt mkBt q 3 (q.iv 8).toNat).ends = true := hd
        refine Sat.ob (by simp only [D.le, D.lef, D.lt, D.ltf, D.eq, D.eqf, D.not, D.notf, D.and, D.andf, D.or, D.orf, D.inr, D.var, D.lit, D.cellB, D.beq, D.beqf, D.litI, D.varI, D.add, D.sub, D.mul, D.min, D.max, D.cellI, D.i64min, D.i64max]; omega) (Sat.ob (by simp only [D.le, D.lef, D.lt, D.ltf, D.eq, D.eqf, D.not, D.notf, D.and, D.andf, D.or, D.orf, D.inr, D.var, D.lit, D.cellB, D.beq, D.beqf, D.litI, D.varI, D.add, D.sub, D.mul, D.min, D.max, D.cellI, D.i64min, D.i64max]; omega) (Sat.new fun e2 hf => ?_))
        have hf2 := hf _ (List.mem_singleton.2 rfl)
        simp only [D.be, D.le, D.lef, D.lt, D.ltf, D.eq, D.eqf, D.not, D.notf, D.and, D.andf, D.or, D.orf, D.inr, D.var, D.lit, D.cellB, D.beq, D.beqf, D.litI, D.varI, D.add, D.sub, D.mul, D.min, D.max, D.cellI, D.i64min, D.i64max] at hf2
        replace hf2 : q.iv 5 + 1 + 1 ≤ (q.join 10 e2).iv 10 ∧ (q.join 10 e2).iv 10 ≤ 9223372036854775807 := hf2
        replace hat : eventsAt (q.join 10 e2) := hat
        replace hb : (recAt mkBt (q.join 10 e2) 3 ((q.join 10 e2).iv 8).toNat).begins = true := hb
        replace hd : (recAt mkBt (q.join 10 e2) 3 ((q.join 10 e2).iv 8).toNat).ends = true := hd
        replace hf2 : (q.join 10 e2).iv 5 + 1 + 1 ≤ (q.join 10 e2).iv 10 ∧ (q.join 10 e2).iv 10 ≤ 9223372036854775807 := hf2
        replace hm : ((q.join 10 e2).iv 1 - ((q.join 10 e2).iv 8 + 1)).toNat < (r.iv 1 - r.iv 8).toNat := hm
        replace o2 : 0 ≤ (q.join 10 e2).iv 5 := o2
        replace hp2 : (q.join 10 e2).iv 1 ≤ 1000000 := hp2
        replace i1 : 0 ≤ (q.join 10 e2).iv 8 := i1
        replace hlt : (q.join 10 e2).iv 8 < (q.join 10 e2).iv 1 := hlt
        clear hf hf1 hlen
        generalize q.join 10 e2 = u at *
        refine Sat.ob (by simp only [D.le, D.lef, D.lt, D.ltf, D.eq, D.eqf, D.not, D.notf, D.and, D.andf, D.or, D.orf, D.inr, D.var, D.lit, D.cellB, D.beq, D.beqf, D.litI, D.varI, D.add, D.sub, D.mul, D.min, D.max, D.cellI, D.i64min, D.i64max]; omega) (Sat.back rfl ⟨hat.step rfl rfl rfl rfl ?_ ?_, hm⟩)
        · refine ⟨fun h => (by cases h), ?_, ?_, ?_⟩
          · show 0 ≤ u.iv 5 + 1 + 1
            omega
          · exact hf2.1
          · exact hf2.2
        · have n1 : ∀ i, i < (u.iv 5).toNat → ¬ (u.iv 5).toNat = i ∧ ¬ (u.iv 5 + 1).toNat = i := fun i hi => by omega
          have n2 : ¬ (u.iv 5 + 1).toNat = (u.iv 5).toNat := by omega
          have n3 : (u.iv 5 + 1).toNat = (u.iv 5).toNat + 1 := by omega
          refine (recs_push2 (x := ⟨(recAt mkBt u 3 (u.iv 8).toNat).thread, true, (recAt mkBt u 3 (u.iv 8).toNat).kind, (recAt mkBt u 3 (u.iv 8).toNat).key, (recAt mkBt u 3 (u.iv 8).toNat).val, (recAt mkBt u 3 (u.iv 8).toNat).tall, 0, 0⟩) (y := ⟨(recAt mkBt u 3 (u.iv 8).toNat).thread, false, 0, 0, 0, 0, (recAt mkBt u 3 (u.iv 8).toNat).code, (recAt mkBt u 3 (u.iv 8).toNat).ans⟩) (b := 4) (ρ := u) o2 rfl (fun i hi => ?_) ?_ ?_).trans ?_
          · simp only [Nat.reduceAdd] at hi
            simp [recAt, mkEv, Sub.nenv, assoc, CV.I, CV.B, upsI, upsB, Seg.I, Seg.B, SC.I, SC.B, IE.den, BE.den, n1 i hi]
          · simp only [Nat.reduceAdd]
            simp [recAt, mkEv, mkBt, Sub.nenv, assoc, CV.I, CV.B, upsI, upsB, Seg.I, Seg.B, SC.I, SC.B, IE.den, BE.den, n2]
          · simp only [Nat.reduceAdd]
            simp [recAt, mkEv, mkBt, Sub.nenv, assoc, CV.I, CV.B, upsI, upsB, Seg.I, Seg.B, SC.I, SC.B, IE.den, BE.den, n3]
          · simp [evsOf, hb, hd]
      · replace hd : (recAt mkBt q 3 (q.iv 8).toNat).ends = false := hd
        refine Sat.ob (by simp only [D.le, D.lef, D.lt, D.ltf, D.eq, D.eqf, D.not, D.notf, D.and, D.andf, D.or, D.orf, D.inr, D.var, D.lit, D.cellB, D.beq, D.beqf, D.litI, D.varI, D.add, D.sub, D.mul, D.min, D.max, D.cellI, D.i64min, D.i64max]; omega) (Sat.back rfl ⟨hat.step rfl rfl rfl rfl ?_ ?_, hm⟩)
        · refine ⟨fun h => (by cases h), ?_, hf1.1, hf1.2⟩
          show 0 ≤ q.iv 5 + 1
          omega
        · have n1 : ∀ i, i < (q.iv 5).toNat → ¬ (q.iv 5).toNat = i := fun i hi => by omega
          refine (recs_push (x := ⟨(recAt mkBt q 3 (q.iv 8).toNat).thread, true, (recAt mkBt q 3 (q.iv 8).toNat).kind, (recAt mkBt q 3 (q.iv 8).toNat).key, (recAt mkBt q 3 (q.iv 8).toNat).val, (recAt mkBt q 3 (q.iv 8).toNat).tall, 0, 0⟩) (b := 4) (ρ := q) o2 rfl (fun i hi => ?_) ?_).trans ?_
          · simp only [Nat.reduceAdd] at hi
            simp [recAt, mkEv, Sub.nenv, assoc, CV.I, CV.B, upsI, upsB, Seg.I, Seg.B, SC.I, SC.B, IE.den, BE.den, n1 i hi]
          · simp only [Nat.reduceAdd]
            simp [recAt, mkEv, mkBt, Sub.nenv, assoc, CV.I, CV.B, upsI, upsB, Seg.I, Seg.B, SC.I, SC.B, IE.den, BE.den]
          · simp [evsOf, hb, hd]
    · replace hb : (recAt mkBt r 3 (r.iv 8).toNat).begins = false := hb
      refine Sat.br (fun hd => ?_) (fun hd => ?_)
      · replace hd : (recAt mkBt r 3 (r.iv 8).toNat).ends = true := hd
        refine Sat.ob (by simp only [D.le, D.lef, D.lt, D.ltf, D.eq, D.eqf, D.not, D.notf, D.and, D.andf, D.or, D.orf, D.inr, D.var, D.lit, D.cellB, D.beq, D.beqf, D.litI, D.varI, D.add, D.sub, D.mul, D.min, D.max, D.cellI, D.i64min, D.i64max]; omega) (Sat.ob (by simp only [D.le, D.lef, D.lt, D.ltf, D.eq, D.eqf, D.not, D.notf, D.and, D.andf, D.or, D.orf, D.inr, D.var, D.lit, D.cellB, D.beq, D.beqf, D.litI, D.varI, D.add, D.sub, D.mul, D.min, D.max, D.cellI, D.i64min, D.i64max]; omega) (Sat.ob (by simp only [D.le, D.lef, D.lt, D.ltf, D.eq, D.eqf, D.not, D.notf, D.and, D.andf, D.or, D.orf, D.inr, D.var, D.lit, D.cellB, D.beq, D.beqf, D.litI, D.varI, D.add, D.sub, D.mul, D.min, D.max, D.cellI, D.i64min, D.i64max]; omega) (Sat.ob (by simp only [D.le, D.lef, D.lt, D.ltf, D.eq, D.eqf, D.not, D.notf, D.and, D.andf, D.or, D.orf, D.inr, D.var, D.lit, D.cellB, D.beq, D.beqf, D.litI, D.varI, D.add, D.sub, D.mul, D.min, D.max, D.cellI, D.i64min, D.i64max]; omega) (Sat.ob (nilOb hat.2.1.2.1) (Sat.new fun e1 hf => ?_)))))
        have hf1 := hf _ (List.mem_singleton.2 rfl)
        simp only [D.be, D.le, D.lef, D.lt, D.ltf, D.eq, D.eqf, D.not, D.notf, D.and, D.andf, D.or, D.orf, D.inr, D.var, D.lit, D.cellB, D.beq, D.beqf, D.litI, D.varI, D.add, D.sub, D.mul, D.min, D.max, D.cellI, D.i64min, D.i64max] at hf1
        replace hf1 : r.iv 5 + 1 ≤ (r.join 9 e1).iv 9 ∧ (r.join 9 e1).iv 9 ≤ 9223372036854775807 := hf1
        replace hat : eventsAt (r.join 9 e1) := hat
        replace hb : (recAt mkBt (r.join 9 e1) 3 ((r.join 9 e1).iv 8).toNat).begins = false := hb
        replace hd : (recAt mkBt (r.join 9 e1) 3 ((r.join 9 e1).iv 8).toNat).ends = true := hd
        replace hf1 : (r.join 9 e1).iv 5 + 1 ≤ (r.join 9 e1).iv 9 ∧ (r.join 9 e1).iv 9 ≤ 9223372036854775807 := hf1
        replace hm : ((r.join 9 e1).iv 1 - ((r.join 9 e1).iv 8 + 1)).toNat < (r.iv 1 - r.iv 8).toNat := hm
        replace o2 : 0 ≤ (r.join 9 e1).iv 5 := o2
        replace hp2 : (r.join 9 e1).iv 1 ≤ 1000000 := hp2
        replace i1 : 0 ≤ (r.join 9 e1).iv 8 := i1
        replace hlt : (r.join 9 e1).iv 8 < (r.join 9 e1).iv 1 := hlt
        clear o1 o3 o4 hf hnl i2 hp hlen
        generalize r.join 9 e1 = q at *
        refine Sat.ob (by simp only [D.le, D.lef, D.lt, D.ltf, D.eq, D.eqf, D.not, D.notf, D.and, D.andf, D.or, D.orf, D.inr, D.var, D.lit, D.cellB, D.beq, D.beqf, D.litI, D.varI, D.add, D.sub, D.mul, D.min, D.max, D.cellI, D.i64min, D.i64max]; omega) (Sat.back rfl ⟨hat.step rfl rfl rfl rfl ?_ ?_, hm⟩)
        · refine ⟨fun h => (by cases h), ?_, hf1.1, hf1.2⟩
          show 0 ≤ q.iv 5 + 1
          omega
        · have n1 : ∀ i, i < (q.iv 5).toNat → ¬ (q.iv 5).toNat = i := fun i hi => by omega
          refine (recs_push (x := ⟨(recAt mkBt q 3 (q.iv 8).toNat).thread, false, 0, 0, 0, 0, (recAt mkBt q 3 (q.iv 8).toNat).code, (recAt mkBt q 3 (q.iv 8).toNat).ans⟩) (b := 4) (ρ := q) o2 rfl (fun i hi => ?_) ?_).trans ?_
          · simp only [Nat.reduceAdd] at hi
            simp [recAt, mkEv, Sub.nenv, assoc, CV.I, CV.B, upsI, upsB, Seg.I, Seg.B, SC.I, SC.B, IE.den, BE.den, n1 i hi]
          · simp only [Nat.reduceAdd]
            simp [recAt, mkEv, mkBt, Sub.nenv, assoc, CV.I, CV.B, upsI, upsB, Seg.I, Seg.B, SC.I, SC.B, IE.den, BE.den]
          · simp [evsOf, hb, hd]
      · replace hd : (recAt mkBt r 3 (r.iv 8).toNat).ends = false := hd
        refine Sat.ob (by simp only [D.le, D.lef, D.lt, D.ltf, D.eq, D.eqf, D.not, D.notf, D.and, D.andf, D.or, D.orf, D.inr, D.var, D.lit, D.cellB, D.beq, D.beqf, D.litI, D.varI, D.add, D.sub, D.mul, D.min, D.max, D.cellI, D.i64min, D.i64max]; omega) (Sat.back rfl ⟨hat.step rfl rfl rfl rfl ⟨o1, o2, o3, o4⟩ ?_, hm⟩)
        have e1 : evsOf (recAt mkBt r 3 (r.iv 8).toNat) = [] := by simp [evsOf, hb, hd]
        rw [e1, List.append_nil]
        exact recs_same (ρ := r) (b := 4) rfl fun i _ => by simp [recAt, mkEv, Sub.nenv, assoc, CV.I, CV.B, upsI, upsB, Seg.I, Seg.B, SC.I, SC.B, IE.den, BE.den]
  · replace hge : ¬ (ρ.join 4 e).iv 8 < (ρ.join 4 e).iv 1 := of_decide_eq_false hge
    replace hpre : eventsPre (ρ.join 4 e) := hpre
    replace hI : eventsInv (ρ.join 4 e) := hI
    generalize ρ.join 4 e = r at *
    obtain ⟨⟨i1, i2⟩, ho, hn⟩ := hI
    refine Sat.fin ⟨ho, ?_⟩
    have e1 := recs_full (mk := mkBt) r 0 (n := (r.iv 8).toNat) (by simp only [Nat.zero_add]; omega)
    rw [e1] at hn
    refine Eq.trans (recs_same (ρ := r) (b := 4) rfl fun i _ => ?_) hn
    simp [recAt, mkEv, Sub.nenv, assoc, CV.I, CV.B, upsI, upsB, Seg.I, Seg.B, SC.I, SC.B, IE.den, BE.den]
theorem events_con : ConOK Tryd.prog eventsCon eventsPre eventsPost :=
  con_ok tabOK (E := eventsE) (cs := []) rfl (fun k pre post h => by cases h) schedOK rfl events_run (by kernel_rfl) (fun ρ _ p hp => by cases hp) events_sat
end Go.Proofs.YtjhnfmfajbghbaaDoor
