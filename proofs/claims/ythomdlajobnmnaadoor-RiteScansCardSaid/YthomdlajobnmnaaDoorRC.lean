/- what the sieve leaves -/
import Derived.Test.YthomdlajobnmnaaDoorRB
set_option linter.unusedSimpArgs false
set_option linter.unusedVariables false
namespace Go.Proofs.YthomdlajobnmnaaDoor.Sv
open Go.Rex
structure Note where
 slot : Int
 gen : Int
 tag : Int
 num : Int
 mark : Bool
 birth : Int
 death : Int
 deriving DecidableEq
def noteAt (ρ : Env) (r i : Nat) : Note := ⟨ρ.ic r i 0 0, ρ.ic r i 0 1, ρ.ic r i 0 2, ρ.ic r i 0 3, ρ.bc r i 0 4, ρ.ic r i 0 5, ρ.ic r i 0 6⟩
def notes (ρ : Env) (b : Nat) : List Note := (List.range (ρ.iv (b + 1)).toNat).map (noteAt ρ (b + 3))
theorem range_map_congr {α : Type} {f g : Nat → α} {n : Nat} (h : ∀ i, i < n → f i = g i) : (List.range n).map f = (List.range n).map g :=
 List.map_congr_left fun i hi => h i (List.mem_range.1 hi)
theorem notes_length (ρ : Env) (b : Nat) : (notes ρ b).length = (ρ.iv (b + 1)).toNat := by simp [notes]
theorem notes_push {ρ ρ' : Env} {b b' : Nat} {x : Note} (h0 : 0 ≤ ρ.iv (b + 1)) (h1 : ρ'.iv (b' + 1) = ρ.iv (b + 1) + 1) (h2 : ∀ i, i < (ρ.iv (b + 1)).toNat → noteAt ρ' (b' + 3) i = noteAt ρ (b + 3) i)
  (h3 : noteAt ρ' (b' + 3) (ρ.iv (b + 1)).toNat = x) : notes ρ' b' = notes ρ b ++ [x] := by
 unfold notes
 rw [h1, show (ρ.iv (b + 1) + 1).toNat = (ρ.iv (b + 1)).toNat + 1 by omega, List.range_succ, List.map_append, range_map_congr h2, List.map_cons, List.map_nil, h3]
theorem notes_same {ρ ρ' : Env} {b b' : Nat} (h1 : ρ'.iv (b' + 1) = ρ.iv (b + 1)) (h2 : ∀ i, i < (ρ.iv (b + 1)).toNat → noteAt ρ' (b' + 3) i = noteAt ρ (b + 3) i) : notes ρ' b' = notes ρ b := by
 unfold notes
 rw [h1, range_map_congr h2]
theorem notes_take {ρ : Env} {b : Nat} {i : Nat} (h : i < (ρ.iv (b + 1)).toNat) : (notes ρ b).take (i + 1) = (notes ρ b).take i ++ [noteAt ρ (b + 3) i] := by
 have hl : i < (notes ρ b).length := by rw [notes_length]; exact h
 rw [List.take_succ_eq_append_getElem hl]
 simp [notes]
theorem notes_full (ρ : Env) (b : Nat) {n : Nat} (h : (ρ.iv (b + 1)).toNat ≤ n) : (notes ρ b).take n = notes ρ b := List.take_of_length_le (by rw [notes_length]; exact h)
def annI (ρ : Env) (b : Nat) : List Int := (List.range (ρ.iv (b + 1)).toNat).map fun j => ρ.ic (b + 3) j 0 0
def annP (ρ : Env) (b : Nat) : List (Bool × Int × Int) := (List.range (ρ.iv (b + 1)).toNat).map fun j => (ρ.bc (b + 3) j 0 0, ρ.ic (b + 3) j 0 1, ρ.ic (b + 3) j 0 2)
def keepS (l : List Int) (n : Note) : Bool := l.any fun s => decide (s = n.slot)
def keepE (l : List Int) (n : Note) : Bool := l.any fun e => decide ((0 < e ∧ n.birth ≤ e) ∧ e ≤ n.death)
def keepP (l : List (Bool × Int × Int)) (n : Note) : Bool := l.any fun s => decide ((s.1 = true ∧ s.2.1 ≤ n.death) ∧ n.birth ≤ s.2.2)
def keepT (now : Int) (n : Note) : Bool := decide (now < -9223372036854775806 ∨ now - 2 < n.death)
noncomputable def slotsE : Ex := { sched := sched, loops := [Ldiv, Lslots], fin := slotsCon }
def slotsOut : Out :=
 .ob (.or (.not (.var 0)) (.ieq (.var 1) (.lit 0))) <|
 .ob (.ile (.lit 0) (.var 1)) <|
 .loop 8 { lo := 8, lob := 3, iv := [(16, .lit 0), (14, .lit 0), (13, .lit 0), (10, .lit 0), (9, .lit 0)], bv := [(12, .lit true), (8, .lit true)], nb := [4, 3] } <|
 .br (.ilt (.var 16) (.var 1))
 (.ob (.not (.var 0)) <|
  .ob (.ile (.lit 0) (.var 16)) <|
  .ob (.or (.not (.var 4)) (.ieq (.var 5) (.lit 0))) <|
  .ob (.ile (.lit 0) (.var 5)) <|
  .loop 17 { lo := 17, lob := 7, iv := [(17, .lit 0)] } <|
  .br (.ilt (.var 17) (.var 5))
  (.ob (.not (.var 4)) <|
   .ob (.ile (.lit 0) (.var 17)) <|
   .br (.ieq (.cell 7 (.var 17) (.lit 0) 0) (.cell 3 (.var 16) (.lit 0) 0))
   (.ob (.ile (.mul (.add (.var 13) (.lit 1)) (.lit 56)) (.lit 140737488355328)) <|
    .ob (.ile (.lit 0) (.var 13)) <|
    .ob (.ile (.var 13) (.var 14)) <|
    .ob (.ile (.var 14) (.lit 9223372036854775807)) <|
    .ob (.or (.not (.var 12)) (.ieq (.var 13) (.lit 0))) <|
    .new 18 [.be (.and (.ile (.add (.var 13) (.lit 1)) (.var 18)) (.ile (.var 18) (.lit 9223372036854775807)))] <|
    .ob (.inr .i64 (.add (.var 16) (.lit 1))) <|
    .back 1 { lo := 8, lob := 3, iv := [(16, .add (.var 16) (.lit 1)), (14, yv 18), (13, .add (.var 13) (.lit 1)), (10, yv 10), (9, yv 9)], bv := [(12, .lit false), (8, yw 8)], ct := [(15, .up { r := 15, n1 := .add (.var 13) (.lit 1), s1 := 7, ks := yN } 0 [⟨0, (.var 13), (.lit 0), 0, .int .i64 (.cell 3 (.var 16) (.lit 0) 0)⟩, ⟨0, (.var 13), (.lit 0), 1, .int .i64 (.cell 3 (.var 16) (.lit 0) 1)⟩, ⟨0, (.var 13), (.lit 0), 2, .int .i64 (.cell 3 (.var 16) (.lit 0) 2)⟩, ⟨0, (.var 13), (.lit 0), 3, .int .i64 (.cell 3 (.var 16) (.lit 0) 3)⟩, ⟨0, (.var 13), (.lit 0), 4, .bool (.cell 3 (.var 16) (.lit 0) 4)⟩, ⟨0, (.var 13), (.lit 0), 5, .int .i64 (.cell 3 (.var 16) (.lit 0) 5)⟩, ⟨0, (.var 13), (.lit 0), 6, .int .i64 (.cell 3 (.var 16) (.lit 0) 6)⟩] (.lit 0)), (11, yu 11 9 7 yN 0)], bk := [(4, yc 9 7), (3, yc 3 7)] })
   (.ob (.inr .i64 (.add (.var 17) (.lit 1))) <|
    .back 0 { lo := 17, lob := 7, iv := [(17, .add (.var 17) (.lit 1))] }))
  (.ob (.ile (.mul (.add (.var 9) (.lit 1)) (.lit 56)) (.lit 140737488355328)) <|
   .ob (.ile (.lit 0) (.var 9)) <|
   .ob (.ile (.var 9) (.var 10)) <|
   .ob (.ile (.var 10) (.lit 9223372036854775807)) <|
   .ob (.or (.not (.var 8)) (.ieq (.var 9) (.lit 0))) <|
   .new 18 [.be (.and (.ile (.add (.var 9) (.lit 1)) (.var 18)) (.ile (.var 18) (.lit 9223372036854775807)))] <|
   .ob (.inr .i64 (.add (.var 16) (.lit 1))) <|
   .back 1 { lo := 8, lob := 3, iv := [(16, .add (.var 16) (.lit 1)), (14, yv 14), (13, yv 13), (10, yv 18), (9, .add (.var 9) (.lit 1))], bv := [(12, yw 12), (8, .lit false)], ct := [(15, yu 15 13 7 yN 0), (11, .up { r := 11, n1 := .add (.var 9) (.lit 1), s1 := 7, ks := yN } 0 [⟨0, (.var 9), (.lit 0), 0, .int .i64 (.cell 3 (.var 16) (.lit 0) 0)⟩, ⟨0, (.var 9), (.lit 0), 1, .int .i64 (.cell 3 (.var 16) (.lit 0) 1)⟩, ⟨0, (.var 9), (.lit 0), 2, .int .i64 (.cell 3 (.var 16) (.lit 0) 2)⟩, ⟨0, (.var 9), (.lit 0), 3, .int .i64 (.cell 3 (.var 16) (.lit 0) 3)⟩, ⟨0, (.var 9), (.lit 0), 4, .bool (.cell 3 (.var 16) (.lit 0) 4)⟩, ⟨0, (.var 9), (.lit 0), 5, .int .i64 (.cell 3 (.var 16) (.lit 0) 5)⟩, ⟨0, (.var 9), (.lit 0), 6, .int .i64 (.cell 3 (.var 16) (.lit 0) 6)⟩] (.lit 0))], bk := [(4, yc 4 7), (3, yc 8 7)] }))
 (.fin { lo := 8, lob := 2, iv := [(14, yv 14), (13, yv 13), (10, yv 10), (9, yv 9)], bv := [(12, yw 12), (8, yw 8)], ct := [(15, yu 15 13 7 yN 0), (11, yu 11 9 7 yN 0)], bk := [(3, yc 4 7), (2, yc 3 7)] })
theorem slots_run : exec tab slotsE 4000 [] (cfg0 slotsCon.f 8 [] [] slotsCon.hp slotsCon.args) = slotsOut := by kernel_rfl
def slotsHit (ρ : Env) (i j : Nat) : Prop := ρ.ic 7 j 0 0 = ρ.ic 3 i 0 0
def slotsPre (ρ : Env) : Prop := OkSl ρ 0 ∧ ρ.iv 1 ≤ 1000000 ∧ OkSl ρ 4 ∧ ρ.iv 5 ≤ 1000000
def slotsPost (ρ : Env) : Prop := OkSl ρ 8 ∧ notes ρ 8 = (notes ρ 0).filter (fun n => !keepS (annI ρ 4) n) ∧ OkSl ρ 12 ∧ notes ρ 12 = (notes ρ 0).filter (keepS (annI ρ 4))
def slotsInv (ρ : Env) : Prop := (0 ≤ ρ.iv 16 ∧ ρ.iv 16 ≤ ρ.iv 1) ∧ (OkSl ρ 8 ∧ notes ρ 8 = ((notes ρ 0).take (ρ.iv 16).toNat).filter (fun n => !keepS (annI ρ 4) n)) ∧ OkSl ρ 12 ∧ notes ρ 12 = ((notes ρ 0).take (ρ.iv 16).toNat).filter (keepS (annI ρ 4))
def slotsIn (ρ : Env) : Prop := (0 ≤ ρ.iv 17 ∧ ρ.iv 17 ≤ ρ.iv 5) ∧ ∀ j : Nat, (j : Int) < ρ.iv 17 → ¬ slotsHit ρ (ρ.iv 16).toNat j
def slotsAt (ρ : Env) : Prop := slotsPre ρ ∧ slotsInv ρ ∧ ρ.iv 16 < ρ.iv 1
theorem slotsAt.lens {ρ : Env} (h : slotsAt ρ) : ρ.iv 9 ≤ ρ.iv 16 ∧ ρ.iv 13 ≤ ρ.iv 16 := by
 obtain ⟨⟨a1, a5, b1, b5⟩, ⟨⟨i1, i2⟩, ⟨⟨o1, o2, o3, o4⟩, n1⟩, ⟨⟨p1, p2, p3, p4⟩, n2⟩⟩, hlt⟩ := h
 have l1 : (notes ρ 8).length ≤ (ρ.iv 16).toNat := by
  rw [n1]; refine Nat.le_trans (List.length_filter_le _ _) ?_; rw [List.length_take]; omega
 have l2 : (notes ρ 12).length ≤ (ρ.iv 16).toNat := by
  rw [n2]; refine Nat.le_trans (List.length_filter_le _ _) ?_; rw [List.length_take]; omega
 rw [notes_length] at l1 l2
 simp only [Nat.reduceAdd] at *
 omega
theorem slotsAt.take {ρ : Env} (h : slotsAt ρ) : (notes ρ 0).take (ρ.iv 16 + 1).toNat = (notes ρ 0).take (ρ.iv 16).toNat ++ [noteAt ρ 3 (ρ.iv 16).toNat] := by
 obtain ⟨_, ⟨⟨i1, i2⟩, _⟩, hlt⟩ := h
 rw [show (ρ.iv 16 + 1).toNat = (ρ.iv 16).toNat + 1 by omega]
 exact notes_take (b := 0) (by simp only [Nat.zero_add]; omega)
theorem slots_sat (ρ : Env) (hpre : slotsPre ρ.num) : Sat slotsPost [] [] ρ slotsOut := by
 replace hpre : slotsPre ρ := hpre
 unfold slotsOut
 refine Sat.ob (nilOb hpre.1) (Sat.ob (decide_eq_true hpre.1.2.1) (Sat.loop slotsInv (fun r => (r.iv 1 - r.iv 16).toNat) ?_ fun e hI => Sat.br (fun hlt => ?_) (fun hge => ?_)))
 ·have h2 := hpre.1.2.1
  simp [slotsInv, OkSl, notes, Sub.nenv, assoc, CV.I, CV.B, upsI, upsB, Seg.I, Seg.B, SC.I, SC.B, IE.den, BE.den, h2]
 ·replace hpre : slotsPre (ρ.join 8 e) := hpre
  replace hI : slotsInv (ρ.join 8 e) := hI
  replace hlt : (ρ.join 8 e).iv 16 < (ρ.join 8 e).iv 1 := of_decide_eq_true hlt
  have hat : slotsAt (ρ.join 8 e) := ⟨hpre, hI, hlt⟩
  clear hpre hI hlt
  have hm : ((ρ.join 8 e).num.iv 1 - (ρ.join 8 e).num.iv 16).toNat = ((ρ.join 8 e).iv 1 - (ρ.join 8 e).iv 16).toNat := rfl
  rw [hm]
  clear hm
  generalize ρ.join 8 e = r at *
  have hpre := hat.1
  obtain ⟨⟨i1, i2⟩, -⟩ := hat.2.1
  have hlt := hat.2.2
  obtain ⟨l1, l2⟩ := hat.lens
  refine Sat.ob ?_ (Sat.ob (decide_eq_true i1) (Sat.ob (nilOb hpre.2.2.1) (Sat.ob (decide_eq_true hpre.2.2.1.2.1) (Sat.loop slotsIn (fun r => (r.iv 5 - r.iv 17).toNat) ?_ fun e2 hI2 => Sat.br (fun hlt2 => ?_) (fun hge2 => ?_)))))
  ·simp only [D.le, D.lef, D.lt, D.ltf, D.eq, D.eqf, D.not, D.notf, D.and, D.andf, D.or, D.orf, D.inr, D.var, D.lit, D.cellB, D.beq, D.beqf, D.litI, D.varI, D.add, D.sub, D.mul, D.min, D.max, D.cellI, D.i64min, D.i64max]
   cases h : r.bv 0
   ·rfl
   ·have := hpre.1.1 h
    simp only [Nat.zero_add] at this
    omega
  ·refine ⟨⟨Int.le_refl 0, hpre.2.2.1.2.1⟩, fun j hj => ?_⟩
   have : (j : Int) < 0 := hj
   omega
  ·replace hI2 : slotsIn (r.join 17 e2) := hI2
   replace hat : slotsAt (r.join 17 e2) := hat
   replace hlt2 : (r.join 17 e2).iv 17 < (r.join 17 e2).iv 5 := of_decide_eq_true hlt2
   rw [show (r.iv 1 - r.iv 16).toNat = ((r.join 17 e2).iv 1 - (r.join 17 e2).iv 16).toNat from rfl]
   rw [show ((r.join 17 e2).num.iv 5 - (r.join 17 e2).num.iv 17).toNat = ((r.join 17 e2).iv 5 - (r.join 17 e2).iv 17).toNat from rfl]
   clear hpre hlt l1 l2 i1 i2
   generalize r.join 17 e2 = q at *
   have hpre := hat.1
   obtain ⟨⟨i1, i2⟩, -⟩ := hat.2.1
   have hlt := hat.2.2
   obtain ⟨l1, l2⟩ := hat.lens
   obtain ⟨⟨j1, j2⟩, j3⟩ := hI2
   refine Sat.ob ?_ (Sat.ob (decide_eq_true j1) (Sat.br (fun heq => ?_) (fun hne => ?_)))
   ·simp only [D.le, D.lef, D.lt, D.ltf, D.eq, D.eqf, D.not, D.notf, D.and, D.andf, D.or, D.orf, D.inr, D.var, D.lit, D.cellB, D.beq, D.beqf, D.litI, D.varI, D.add, D.sub, D.mul, D.min, D.max, D.cellI, D.i64min, D.i64max]
    cases h : q.bv 4
    ·rfl
    ·have := hpre.2.2.1.1 h
     simp only [Nat.reduceAdd] at this
     omega
   ·replace heq : slotsHit q (q.iv 16).toNat (q.iv 17).toNat := by simp only [D.le, D.lef, D.lt, D.ltf, D.eq, D.eqf, D.not, D.notf, D.and, D.andf, D.or, D.orf, D.inr, D.var, D.lit, D.cellB, D.beq, D.beqf, D.litI, D.varI, D.add, D.sub, D.mul, D.min, D.max, D.cellI, D.i64min, D.i64max] at heq; exact heq
    have hk : keepS (annI q 4) (noteAt q 3 (q.iv 16).toNat) = true := by
     refine List.any_eq_true.2 ⟨_, List.mem_map.2 ⟨(q.iv 17).toNat, List.mem_range.2 (by simp only [Nat.reduceAdd]; omega), rfl⟩, decide_eq_true heq⟩
    obtain ⟨⟨o1, o2, o3, o4⟩, n1⟩ := hat.2.1.2.1
    obtain ⟨⟨p1, p2, p3, p4⟩, n2⟩ := hat.2.1.2.2
    have htk := hat.take
    obtain ⟨_, a5, _, b5⟩ := hpre
    simp only [Nat.reduceAdd] at *
    refine Sat.ob ?_ (Sat.ob (decide_eq_true p2) (Sat.ob (decide_eq_true p3) (Sat.ob (decide_eq_true p4) (Sat.ob (nilOb hat.2.1.2.2.1) (Sat.new fun e3 hf => Sat.ob ?_ (Sat.back rfl ⟨?_, ?_⟩))))))
    ·simp only [D.le, D.lef, D.lt, D.ltf, D.eq, D.eqf, D.not, D.notf, D.and, D.andf, D.or, D.orf, D.inr, D.var, D.lit, D.cellB, D.beq, D.beqf, D.litI, D.varI, D.add, D.sub, D.mul, D.min, D.max, D.cellI, D.i64min, D.i64max]; omega
    ·simp only [D.le, D.lef, D.lt, D.ltf, D.eq, D.eqf, D.not, D.notf, D.and, D.andf, D.or, D.orf, D.inr, D.var, D.lit, D.cellB, D.beq, D.beqf, D.litI, D.varI, D.add, D.sub, D.mul, D.min, D.max, D.cellI, D.i64min, D.i64max]; simp [Env.join]; omega
    ·have hf := hf _ (List.mem_singleton.2 rfl)
     simp only [D.be, D.le, D.lef, D.lt, D.ltf, D.eq, D.eqf, D.not, D.notf, D.and, D.andf, D.or, D.orf, D.inr, D.var, D.lit, D.cellB, D.beq, D.beqf, D.litI, D.varI, D.add, D.sub, D.mul, D.min, D.max, D.cellI, D.i64min, D.i64max] at hf
     simp [Env.join] at hf
     refine ⟨⟨by simp [Sub.nenv, assoc, CV.I, CV.B, upsI, upsB, Seg.I, Seg.B, SC.I, SC.B, IE.den, BE.den, Env.join]; omega, by simp [Sub.nenv, assoc, CV.I, CV.B, upsI, upsB, Seg.I, Seg.B, SC.I, SC.B, IE.den, BE.den, Env.join]; omega⟩, ⟨⟨o1, o2, o3, o4⟩, ?_⟩, ⟨?_, ?_⟩⟩
     ·refine Eq.trans (b := notes q 8) (by exact notes_same rfl fun i _ => by simp [noteAt, Sub.nenv, assoc, CV.I, CV.B, upsI, upsB, Seg.I, Seg.B, SC.I, SC.B, IE.den, BE.den, Env.join]) ?_
      show notes q 8 = ((notes q 0).take (q.iv 16 + 1).toNat).filter (fun n => !keepS (annI q 4) n)
      rw [htk, List.filter_append, n1]
      simp [hk]
     ·simp [OkSl, Sub.nenv, assoc, CV.I, CV.B, upsI, upsB, Seg.I, Seg.B, SC.I, SC.B, IE.den, BE.den, Env.join]
      omega
     ·refine (notes_push (ρ := q) (b := 12) (x := noteAt q 3 (q.iv 16).toNat) p2 rfl (fun i hi => ?_) ?_).trans ?_
      ·have : ¬ (q.iv 13).toNat = i := by simp only [Nat.reduceAdd] at hi; omega
       simp [noteAt, Sub.nenv, assoc, CV.I, CV.B, upsI, upsB, Seg.I, Seg.B, SC.I, SC.B, IE.den, BE.den, Env.join, this]
      ·simp [noteAt, Sub.nenv, assoc, CV.I, CV.B, upsI, upsB, Seg.I, Seg.B, SC.I, SC.B, IE.den, BE.den, Env.join]
      ·show notes q 12 ++ _ = ((notes q 0).take (q.iv 16 + 1).toNat).filter (keepS (annI q 4))
       rw [htk, List.filter_append, n2]
       simp [hk]
    ·show (q.iv 1 - (q.iv 16 + 1)).toNat < (q.iv 1 - q.iv 16).toNat
     omega
   ·replace hne : ¬ slotsHit q (q.iv 16).toNat (q.iv 17).toNat := fun h => by
     exact Bool.false_ne_true (hne.symm.trans (by simp only [D.le, D.lef, D.lt, D.ltf, D.eq, D.eqf, D.not, D.notf, D.and, D.andf, D.or, D.orf, D.inr, D.var, D.lit, D.cellB, D.beq, D.beqf, D.litI, D.varI, D.add, D.sub, D.mul, D.min, D.max, D.cellI, D.i64min, D.i64max]; exact h))
    refine Sat.ob ?_ (Sat.back rfl ⟨⟨⟨?_, ?_⟩, fun j hj => ?_⟩, ?_⟩)
    ·simp only [D.le, D.lef, D.lt, D.ltf, D.eq, D.eqf, D.not, D.notf, D.and, D.andf, D.or, D.orf, D.inr, D.var, D.lit, D.cellB, D.beq, D.beqf, D.litI, D.varI, D.add, D.sub, D.mul, D.min, D.max, D.cellI, D.i64min, D.i64max]; have := hpre.2.2.2; omega
    ·show 0 ≤ q.iv 17 + 1; omega
    ·show q.iv 17 + 1 ≤ q.iv 5; omega
    ·replace hj : (j : Int) < q.iv 17 + 1 := hj
     show ¬ slotsHit q (q.iv 16).toNat j
     by_cases h : j = (q.iv 17).toNat
     ·subst h; exact hne
     ·exact j3 j (by omega)
    ·show (q.iv 5 - (q.iv 17 + 1)).toNat < (q.iv 5 - q.iv 17).toNat
     omega
  ·replace hI2 : slotsIn (r.join 17 e2) := hI2
   replace hat : slotsAt (r.join 17 e2) := hat
   replace hge2 : ¬ (r.join 17 e2).iv 17 < (r.join 17 e2).iv 5 := of_decide_eq_false hge2
   rw [show (r.iv 1 - r.iv 16).toNat = ((r.join 17 e2).iv 1 - (r.join 17 e2).iv 16).toNat from rfl]
   clear hpre hlt l1 l2 i1 i2
   generalize r.join 17 e2 = q at *
   have hpre := hat.1
   obtain ⟨⟨i1, i2⟩, -⟩ := hat.2.1
   have hlt := hat.2.2
   obtain ⟨l1, l2⟩ := hat.lens
   obtain ⟨⟨j1, j2⟩, j3⟩ := hI2
   have hk : keepS (annI q 4) (noteAt q 3 (q.iv 16).toNat) = false := by
    refine List.any_eq_false.2 fun x hx => ?_
    obtain ⟨j, hj, rfl⟩ := List.mem_map.1 hx
    have hj := List.mem_range.1 hj
    simp only [Nat.reduceAdd] at hj
    exact ne_true_of_eq_false (decide_eq_false (j3 j (by omega)))
   obtain ⟨⟨o1, o2, o3, o4⟩, n1⟩ := hat.2.1.2.1
   obtain ⟨⟨p1, p2, p3, p4⟩, n2⟩ := hat.2.1.2.2
   have htk := hat.take
   obtain ⟨_, a5, _, b5⟩ := hpre
   simp only [Nat.reduceAdd] at *
   refine Sat.ob ?_ (Sat.ob (decide_eq_true o2) (Sat.ob (decide_eq_true o3) (Sat.ob (decide_eq_true o4) (Sat.ob (nilOb hat.2.1.2.1.1) (Sat.new fun e3 hf => Sat.ob ?_ (Sat.back rfl ⟨?_, ?_⟩))))))
   ·simp only [D.le, D.lef, D.lt, D.ltf, D.eq, D.eqf, D.not, D.notf, D.and, D.andf, D.or, D.orf, D.inr, D.var, D.lit, D.cellB, D.beq, D.beqf, D.litI, D.varI, D.add, D.sub, D.mul, D.min, D.max, D.cellI, D.i64min, D.i64max]; omega
   ·simp only [D.le, D.lef, D.lt, D.ltf, D.eq, D.eqf, D.not, D.notf, D.and, D.andf, D.or, D.orf, D.inr, D.var, D.lit, D.cellB, D.beq, D.beqf, D.litI, D.varI, D.add, D.sub, D.mul, D.min, D.max, D.cellI, D.i64min, D.i64max]; simp [Env.join]; omega
   ·have hf := hf _ (List.mem_singleton.2 rfl)
    simp only [D.be, D.le, D.lef, D.lt, D.ltf, D.eq, D.eqf, D.not, D.notf, D.and, D.andf, D.or, D.orf, D.inr, D.var, D.lit, D.cellB, D.beq, D.beqf, D.litI, D.varI, D.add, D.sub, D.mul, D.min, D.max, D.cellI, D.i64min, D.i64max] at hf
    simp [Env.join] at hf
    refine ⟨⟨by simp [Sub.nenv, assoc, CV.I, CV.B, upsI, upsB, Seg.I, Seg.B, SC.I, SC.B, IE.den, BE.den, Env.join]; omega, by simp [Sub.nenv, assoc, CV.I, CV.B, upsI, upsB, Seg.I, Seg.B, SC.I, SC.B, IE.den, BE.den, Env.join]; omega⟩, ⟨?_, ?_⟩, ⟨⟨p1, p2, p3, p4⟩, ?_⟩⟩
    ·simp [OkSl, Sub.nenv, assoc, CV.I, CV.B, upsI, upsB, Seg.I, Seg.B, SC.I, SC.B, IE.den, BE.den, Env.join]
     omega
    ·refine (notes_push (ρ := q) (b := 8) (x := noteAt q 3 (q.iv 16).toNat) o2 rfl (fun i hi => ?_) ?_).trans ?_
     ·have : ¬ (q.iv 9).toNat = i := by simp only [Nat.reduceAdd] at hi; omega
      simp [noteAt, Sub.nenv, assoc, CV.I, CV.B, upsI, upsB, Seg.I, Seg.B, SC.I, SC.B, IE.den, BE.den, Env.join, this]
     ·simp [noteAt, Sub.nenv, assoc, CV.I, CV.B, upsI, upsB, Seg.I, Seg.B, SC.I, SC.B, IE.den, BE.den, Env.join]
     ·show notes q 8 ++ _ = ((notes q 0).take (q.iv 16 + 1).toNat).filter (fun n => !keepS (annI q 4) n)
      rw [htk, List.filter_append, n1]
      simp [hk]
    ·refine Eq.trans (b := notes q 12) (by exact notes_same rfl fun i _ => by simp [noteAt, Sub.nenv, assoc, CV.I, CV.B, upsI, upsB, Seg.I, Seg.B, SC.I, SC.B, IE.den, BE.den, Env.join]) ?_
     show notes q 12 = ((notes q 0).take (q.iv 16 + 1).toNat).filter (keepS (annI q 4))
     rw [htk, List.filter_append, n2]
     simp [hk]
   ·show (q.iv 1 - (q.iv 16 + 1)).toNat < (q.iv 1 - q.iv 16).toNat
    omega
 ·replace hpre : slotsPre (ρ.join 8 e) := hpre
  replace hI : slotsInv (ρ.join 8 e) := hI
  replace hge : ¬ (ρ.join 8 e).iv 16 < (ρ.join 8 e).iv 1 := of_decide_eq_false hge
  generalize ρ.join 8 e = q at *
  obtain ⟨⟨i1, i2⟩, ⟨o, n1⟩, ⟨p, n2⟩⟩ := hI
  rw [notes_full _ _ (by simp only [Nat.zero_add]; omega)] at n1 n2
  refine Sat.fin ⟨o, ?_, p, ?_⟩
  ·exact Eq.trans (b := notes q 8) (by exact notes_same rfl fun i _ => by simp [noteAt, Sub.nenv, assoc, CV.I, CV.B, upsI, upsB, Seg.I, Seg.B, SC.I, SC.B, IE.den, BE.den, Env.join]) n1
  ·exact Eq.trans (b := notes q 12) (by exact notes_same rfl fun i _ => by simp [noteAt, Sub.nenv, assoc, CV.I, CV.B, upsI, upsB, Seg.I, Seg.B, SC.I, SC.B, IE.den, BE.den, Env.join]) n2
theorem slots_con : ConOK Tryd.prog slotsCon slotsPre slotsPost :=
 con_ok tabOK (E := slotsE) (cs := []) rfl (fun k pre post h => by cases h) schedOK rfl slots_run (by kernel_rfl) (fun ρ _ p hp => by cases hp) slots_sat
noncomputable def erasE : Ex := { sched := sched, loops := [Ldiv, Leras], fin := erasCon }
def erasOut : Out :=
 .ob (.or (.not (.var 0)) (.ieq (.var 1) (.lit 0))) <|
 .ob (.ile (.lit 0) (.var 1)) <|
 .loop 8 { lo := 8, lob := 3, iv := [(16, .lit 0), (14, .lit 0), (13, .lit 0), (10, .lit 0), (9, .lit 0)], bv := [(12, .lit true), (8, .lit true)], nb := [4, 3] } <|
 .br (.ilt (.var 16) (.var 1))
 (.ob (.not (.var 0)) <|
  .ob (.ile (.lit 0) (.var 16)) <|
  .ob (.or (.not (.var 4)) (.ieq (.var 5) (.lit 0))) <|
  .ob (.ile (.lit 0) (.var 5)) <|
  .loop 17 { lo := 17, lob := 7, iv := [(17, .lit 0)] } <|
  .br (.ilt (.var 17) (.var 5))
  (.ob (.not (.var 4)) <|
   .ob (.ile (.lit 0) (.var 17)) <|
   .br (.and (.and (.ilt (.lit 0) (.cell 7 (.var 17) (.lit 0) 0)) (.ile (.cell 3 (.var 16) (.lit 0) 5) (.cell 7 (.var 17) (.lit 0) 0))) (.ile (.cell 7 (.var 17) (.lit 0) 0) (.cell 3 (.var 16) (.lit 0) 6)))
   (.ob (.ile (.mul (.add (.var 13) (.lit 1)) (.lit 56)) (.lit 140737488355328)) <|
    .ob (.ile (.lit 0) (.var 13)) <|
    .ob (.ile (.var 13) (.var 14)) <|
    .ob (.ile (.var 14) (.lit 9223372036854775807)) <|
    .ob (.or (.not (.var 12)) (.ieq (.var 13) (.lit 0))) <|
    .new 18 [.be (.and (.ile (.add (.var 13) (.lit 1)) (.var 18)) (.ile (.var 18) (.lit 9223372036854775807)))] <|
    .ob (.inr .i64 (.add (.var 16) (.lit 1))) <|
    .back 1 { lo := 8, lob := 3, iv := [(16, .add (.var 16) (.lit 1)), (14, yv 18), (13, .add (.var 13) (.lit 1)), (10, yv 10), (9, yv 9)], bv := [(12, .lit false), (8, yw 8)], ct := [(15, .up { r := 15, n1 := .add (.var 13) (.lit 1), s1 := 7, ks := yN } 0 [⟨0, (.var 13), (.lit 0), 0, .int .i64 (.cell 3 (.var 16) (.lit 0) 0)⟩, ⟨0, (.var 13), (.lit 0), 1, .int .i64 (.cell 3 (.var 16) (.lit 0) 1)⟩, ⟨0, (.var 13), (.lit 0), 2, .int .i64 (.cell 3 (.var 16) (.lit 0) 2)⟩, ⟨0, (.var 13), (.lit 0), 3, .int .i64 (.cell 3 (.var 16) (.lit 0) 3)⟩, ⟨0, (.var 13), (.lit 0), 4, .bool (.cell 3 (.var 16) (.lit 0) 4)⟩, ⟨0, (.var 13), (.lit 0), 5, .int .i64 (.cell 3 (.var 16) (.lit 0) 5)⟩, ⟨0, (.var 13), (.lit 0), 6, .int .i64 (.cell 3 (.var 16) (.lit 0) 6)⟩] (.lit 0)), (11, yu 11 9 7 yN 0)], bk := [(4, yc 8 7), (3, yc 3 7)] })
   (.ob (.inr .i64 (.add (.var 17) (.lit 1))) <|
    .back 0 { lo := 17, lob := 7, iv := [(17, .add (.var 17) (.lit 1))] }))
  (.ob (.ile (.mul (.add (.var 9) (.lit 1)) (.lit 56)) (.lit 140737488355328)) <|
   .ob (.ile (.lit 0) (.var 9)) <|
   .ob (.ile (.var 9) (.var 10)) <|
   .ob (.ile (.var 10) (.lit 9223372036854775807)) <|
   .ob (.or (.not (.var 8)) (.ieq (.var 9) (.lit 0))) <|
   .new 18 [.be (.and (.ile (.add (.var 9) (.lit 1)) (.var 18)) (.ile (.var 18) (.lit 9223372036854775807)))] <|
   .ob (.inr .i64 (.add (.var 16) (.lit 1))) <|
   .back 1 { lo := 8, lob := 3, iv := [(16, .add (.var 16) (.lit 1)), (14, yv 14), (13, yv 13), (10, yv 18), (9, .add (.var 9) (.lit 1))], bv := [(12, yw 12), (8, .lit false)], ct := [(15, yu 15 13 7 yN 0), (11, .up { r := 11, n1 := .add (.var 9) (.lit 1), s1 := 7, ks := yN } 0 [⟨0, (.var 9), (.lit 0), 0, .int .i64 (.cell 3 (.var 16) (.lit 0) 0)⟩, ⟨0, (.var 9), (.lit 0), 1, .int .i64 (.cell 3 (.var 16) (.lit 0) 1)⟩, ⟨0, (.var 9), (.lit 0), 2, .int .i64 (.cell 3 (.var 16) (.lit 0) 2)⟩, ⟨0, (.var 9), (.lit 0), 3, .int .i64 (.cell 3 (.var 16) (.lit 0) 3)⟩, ⟨0, (.var 9), (.lit 0), 4, .bool (.cell 3 (.var 16) (.lit 0) 4)⟩, ⟨0, (.var 9), (.lit 0), 5, .int .i64 (.cell 3 (.var 16) (.lit 0) 5)⟩, ⟨0, (.var 9), (.lit 0), 6, .int .i64 (.cell 3 (.var 16) (.lit 0) 6)⟩] (.lit 0))], bk := [(4, yc 4 7), (3, yc 8 7)] }))
 (.fin { lo := 8, lob := 2, iv := [(14, yv 14), (13, yv 13), (10, yv 10), (9, yv 9)], bv := [(12, yw 12), (8, yw 8)], ct := [(15, yu 15 13 7 yN 0), (11, yu 11 9 7 yN 0)], bk := [(3, yc 4 7), (2, yc 3 7)] })
theorem eras_run : exec tab erasE 4000 [] (cfg0 erasCon.f 8 [] [] erasCon.hp erasCon.args) = erasOut := by kernel_rfl
def erasHit (ρ : Env) (i j : Nat) : Prop := (0 < ρ.ic 7 j 0 0 ∧ ρ.ic 3 i 0 5 ≤ ρ.ic 7 j 0 0) ∧ ρ.ic 7 j 0 0 ≤ ρ.ic 3 i 0 6
def erasPre (ρ : Env) : Prop := OkSl ρ 0 ∧ ρ.iv 1 ≤ 1000000 ∧ OkSl ρ 4 ∧ ρ.iv 5 ≤ 1000000
def erasPost (ρ : Env) : Prop := OkSl ρ 8 ∧ notes ρ 8 = (notes ρ 0).filter (fun n => !keepE (annI ρ 4) n) ∧ OkSl ρ 12 ∧ notes ρ 12 = (notes ρ 0).filter (keepE (annI ρ 4))
def erasInv (ρ : Env) : Prop := (0 ≤ ρ.iv 16 ∧ ρ.iv 16 ≤ ρ.iv 1) ∧ (OkSl ρ 8 ∧ notes ρ 8 = ((notes ρ 0).take (ρ.iv 16).toNat).filter (fun n => !keepE (annI ρ 4) n)) ∧ OkSl ρ 12 ∧ notes ρ 12 = ((notes ρ 0).take (ρ.iv 16).toNat).filter (keepE (annI ρ 4))
def erasIn (ρ : Env) : Prop := (0 ≤ ρ.iv 17 ∧ ρ.iv 17 ≤ ρ.iv 5) ∧ ∀ j : Nat, (j : Int) < ρ.iv 17 → ¬ erasHit ρ (ρ.iv 16).toNat j
def erasAt (ρ : Env) : Prop := erasPre ρ ∧ erasInv ρ ∧ ρ.iv 16 < ρ.iv 1
theorem erasAt.lens {ρ : Env} (h : erasAt ρ) : ρ.iv 9 ≤ ρ.iv 16 ∧ ρ.iv 13 ≤ ρ.iv 16 := by
 obtain ⟨⟨a1, a5, b1, b5⟩, ⟨⟨i1, i2⟩, ⟨⟨o1, o2, o3, o4⟩, n1⟩, ⟨⟨p1, p2, p3, p4⟩, n2⟩⟩, hlt⟩ := h
 have l1 : (notes ρ 8).length ≤ (ρ.iv 16).toNat := by
  rw [n1]; refine Nat.le_trans (List.length_filter_le _ _) ?_; rw [List.length_take]; omega
 have l2 : (notes ρ 12).length ≤ (ρ.iv 16).toNat := by
  rw [n2]; refine Nat.le_trans (List.length_filter_le _ _) ?_; rw [List.length_take]; omega
 rw [notes_length] at l1 l2
 simp only [Nat.reduceAdd] at *
 omega
theorem erasAt.take {ρ : Env} (h : erasAt ρ) : (notes ρ 0).take (ρ.iv 16 + 1).toNat = (notes ρ 0).take (ρ.iv 16).toNat ++ [noteAt ρ 3 (ρ.iv 16).toNat] := by
 obtain ⟨_, ⟨⟨i1, i2⟩, _⟩, hlt⟩ := h
 rw [show (ρ.iv 16 + 1).toNat = (ρ.iv 16).toNat + 1 by omega]
 exact notes_take (b := 0) (by simp only [Nat.zero_add]; omega)
theorem eras_sat (ρ : Env) (hpre : erasPre ρ.num) : Sat erasPost [] [] ρ erasOut := by
 replace hpre : erasPre ρ := hpre
 unfold erasOut
 refine Sat.ob (nilOb hpre.1) (Sat.ob (decide_eq_true hpre.1.2.1) (Sat.loop erasInv (fun r => (r.iv 1 - r.iv 16).toNat) ?_ fun e hI => Sat.br (fun hlt => ?_) (fun hge => ?_)))
 ·have h2 := hpre.1.2.1
  simp [erasInv, OkSl, notes, Sub.nenv, assoc, CV.I, CV.B, upsI, upsB, Seg.I, Seg.B, SC.I, SC.B, IE.den, BE.den, h2]
 ·replace hpre : erasPre (ρ.join 8 e) := hpre
  replace hI : erasInv (ρ.join 8 e) := hI
  replace hlt : (ρ.join 8 e).iv 16 < (ρ.join 8 e).iv 1 := of_decide_eq_true hlt
  have hat : erasAt (ρ.join 8 e) := ⟨hpre, hI, hlt⟩
  clear hpre hI hlt
  have hm : ((ρ.join 8 e).num.iv 1 - (ρ.join 8 e).num.iv 16).toNat = ((ρ.join 8 e).iv 1 - (ρ.join 8 e).iv 16).toNat := rfl
  rw [hm]
  clear hm
  generalize ρ.join 8 e = r at *
  have hpre := hat.1
  obtain ⟨⟨i1, i2⟩, -⟩ := hat.2.1
  have hlt := hat.2.2
  obtain ⟨l1, l2⟩ := hat.lens
  refine Sat.ob ?_ (Sat.ob (decide_eq_true i1) (Sat.ob (nilOb hpre.2.2.1) (Sat.ob (decide_eq_true hpre.2.2.1.2.1) (Sat.loop erasIn (fun r => (r.iv 5 - r.iv 17).toNat) ?_ fun e2 hI2 => Sat.br (fun hlt2 => ?_) (fun hge2 => ?_)))))
  ·simp only [D.le, D.lef, D.lt, D.ltf, D.eq, D.eqf, D.not, D.notf, D.and, D.andf, D.or, D.orf, D.inr, D.var, D.lit, D.cellB, D.beq, D.beqf, D.litI, D.varI, D.add, D.sub, D.mul, D.min, D.max, D.cellI, D.i64min, D.i64max]
   cases h : r.bv 0
   ·rfl
   ·have := hpre.1.1 h
    simp only [Nat.zero_add] at this
    omega
  ·refine ⟨⟨Int.le_refl 0, hpre.2.2.1.2.1⟩, fun j hj => ?_⟩
   have : (j : Int) < 0 := hj
   omega
  ·replace hI2 : erasIn (r.join 17 e2) := hI2
   replace hat : erasAt (r.join 17 e2) := hat
   replace hlt2 : (r.join 17 e2).iv 17 < (r.join 17 e2).iv 5 := of_decide_eq_true hlt2
   rw [show (r.iv 1 - r.iv 16).toNat = ((r.join 17 e2).iv 1 - (r.join 17 e2).iv 16).toNat from rfl]
   rw [show ((r.join 17 e2).num.iv 5 - (r.join 17 e2).num.iv 17).toNat = ((r.join 17 e2).iv 5 - (r.join 17 e2).iv 17).toNat from rfl]
   clear hpre hlt l1 l2 i1 i2
   generalize r.join 17 e2 = q at *
   have hpre := hat.1
   obtain ⟨⟨i1, i2⟩, -⟩ := hat.2.1
   have hlt := hat.2.2
   obtain ⟨l1, l2⟩ := hat.lens
   obtain ⟨⟨j1, j2⟩, j3⟩ := hI2
   refine Sat.ob ?_ (Sat.ob (decide_eq_true j1) (Sat.br (fun heq => ?_) (fun hne => ?_)))
   ·simp only [D.le, D.lef, D.lt, D.ltf, D.eq, D.eqf, D.not, D.notf, D.and, D.andf, D.or, D.orf, D.inr, D.var, D.lit, D.cellB, D.beq, D.beqf, D.litI, D.varI, D.add, D.sub, D.mul, D.min, D.max, D.cellI, D.i64min, D.i64max]
    cases h : q.bv 4
    ·rfl
    ·have := hpre.2.2.1.1 h
     simp only [Nat.reduceAdd] at this
     omega
   ·replace heq : erasHit q (q.iv 16).toNat (q.iv 17).toNat := by simp only [D.le, D.lef, D.lt, D.ltf, D.eq, D.eqf, D.not, D.notf, D.and, D.andf, D.or, D.orf, D.inr, D.var, D.lit, D.cellB, D.beq, D.beqf, D.litI, D.varI, D.add, D.sub, D.mul, D.min, D.max, D.cellI, D.i64min, D.i64max] at heq; exact heq
    have hk : keepE (annI q 4) (noteAt q 3 (q.iv 16).toNat) = true := by
     refine List.any_eq_true.2 ⟨_, List.mem_map.2 ⟨(q.iv 17).toNat, List.mem_range.2 (by simp only [Nat.reduceAdd]; omega), rfl⟩, decide_eq_true heq⟩
    obtain ⟨⟨o1, o2, o3, o4⟩, n1⟩ := hat.2.1.2.1
    obtain ⟨⟨p1, p2, p3, p4⟩, n2⟩ := hat.2.1.2.2
    have htk := hat.take
    obtain ⟨_, a5, _, b5⟩ := hpre
    simp only [Nat.reduceAdd] at *
    refine Sat.ob ?_ (Sat.ob (decide_eq_true p2) (Sat.ob (decide_eq_true p3) (Sat.ob (decide_eq_true p4) (Sat.ob (nilOb hat.2.1.2.2.1) (Sat.new fun e3 hf => Sat.ob ?_ (Sat.back rfl ⟨?_, ?_⟩))))))
    ·simp only [D.le, D.lef, D.lt, D.ltf, D.eq, D.eqf, D.not, D.notf, D.and, D.andf, D.or, D.orf, D.inr, D.var, D.lit, D.cellB, D.beq, D.beqf, D.litI, D.varI, D.add, D.sub, D.mul, D.min, D.max, D.cellI, D.i64min, D.i64max]; omega
    ·simp only [D.le, D.lef, D.lt, D.ltf, D.eq, D.eqf, D.not, D.notf, D.and, D.andf, D.or, D.orf, D.inr, D.var, D.lit, D.cellB, D.beq, D.beqf, D.litI, D.varI, D.add, D.sub, D.mul, D.min, D.max, D.cellI, D.i64min, D.i64max]; simp [Env.join]; omega
    ·have hf := hf _ (List.mem_singleton.2 rfl)
     simp only [D.be, D.le, D.lef, D.lt, D.ltf, D.eq, D.eqf, D.not, D.notf, D.and, D.andf, D.or, D.orf, D.inr, D.var, D.lit, D.cellB, D.beq, D.beqf, D.litI, D.varI, D.add, D.sub, D.mul, D.min, D.max, D.cellI, D.i64min, D.i64max] at hf
     simp [Env.join] at hf
     refine ⟨⟨by simp [Sub.nenv, assoc, CV.I, CV.B, upsI, upsB, Seg.I, Seg.B, SC.I, SC.B, IE.den, BE.den, Env.join]; omega, by simp [Sub.nenv, assoc, CV.I, CV.B, upsI, upsB, Seg.I, Seg.B, SC.I, SC.B, IE.den, BE.den, Env.join]; omega⟩, ⟨⟨o1, o2, o3, o4⟩, ?_⟩, ⟨?_, ?_⟩⟩
     ·refine Eq.trans (b := notes q 8) (by exact notes_same rfl fun i _ => by simp [noteAt, Sub.nenv, assoc, CV.I, CV.B, upsI, upsB, Seg.I, Seg.B, SC.I, SC.B, IE.den, BE.den, Env.join]) ?_
      show notes q 8 = ((notes q 0).take (q.iv 16 + 1).toNat).filter (fun n => !keepE (annI q 4) n)
      rw [htk, List.filter_append, n1]
      simp [hk]
     ·simp [OkSl, Sub.nenv, assoc, CV.I, CV.B, upsI, upsB, Seg.I, Seg.B, SC.I, SC.B, IE.den, BE.den, Env.join]
      omega
     ·refine (notes_push (ρ := q) (b := 12) (x := noteAt q 3 (q.iv 16).toNat) p2 rfl (fun i hi => ?_) ?_).trans ?_
      ·have : ¬ (q.iv 13).toNat = i := by simp only [Nat.reduceAdd] at hi; omega
       simp [noteAt, Sub.nenv, assoc, CV.I, CV.B, upsI, upsB, Seg.I, Seg.B, SC.I, SC.B, IE.den, BE.den, Env.join, this]
      ·simp [noteAt, Sub.nenv, assoc, CV.I, CV.B, upsI, upsB, Seg.I, Seg.B, SC.I, SC.B, IE.den, BE.den, Env.join]
      ·show notes q 12 ++ _ = ((notes q 0).take (q.iv 16 + 1).toNat).filter (keepE (annI q 4))
       rw [htk, List.filter_append, n2]
       simp [hk]
    ·show (q.iv 1 - (q.iv 16 + 1)).toNat < (q.iv 1 - q.iv 16).toNat
     omega
   ·replace hne : ¬ erasHit q (q.iv 16).toNat (q.iv 17).toNat := fun h => by
     exact Bool.false_ne_true (hne.symm.trans (by simp only [D.le, D.lef, D.lt, D.ltf, D.eq, D.eqf, D.not, D.notf, D.and, D.andf, D.or, D.orf, D.inr, D.var, D.lit, D.cellB, D.beq, D.beqf, D.litI, D.varI, D.add, D.sub, D.mul, D.min, D.max, D.cellI, D.i64min, D.i64max]; exact h))
    refine Sat.ob ?_ (Sat.back rfl ⟨⟨⟨?_, ?_⟩, fun j hj => ?_⟩, ?_⟩)
    ·simp only [D.le, D.lef, D.lt, D.ltf, D.eq, D.eqf, D.not, D.notf, D.and, D.andf, D.or, D.orf, D.inr, D.var, D.lit, D.cellB, D.beq, D.beqf, D.litI, D.varI, D.add, D.sub, D.mul, D.min, D.max, D.cellI, D.i64min, D.i64max]; have := hpre.2.2.2; omega
    ·show 0 ≤ q.iv 17 + 1; omega
    ·show q.iv 17 + 1 ≤ q.iv 5; omega
    ·replace hj : (j : Int) < q.iv 17 + 1 := hj
     show ¬ erasHit q (q.iv 16).toNat j
     by_cases h : j = (q.iv 17).toNat
     ·subst h; exact hne
     ·exact j3 j (by omega)
    ·show (q.iv 5 - (q.iv 17 + 1)).toNat < (q.iv 5 - q.iv 17).toNat
     omega
  ·replace hI2 : erasIn (r.join 17 e2) := hI2
   replace hat : erasAt (r.join 17 e2) := hat
   replace hge2 : ¬ (r.join 17 e2).iv 17 < (r.join 17 e2).iv 5 := of_decide_eq_false hge2
   rw [show (r.iv 1 - r.iv 16).toNat = ((r.join 17 e2).iv 1 - (r.join 17 e2).iv 16).toNat from rfl]
   clear hpre hlt l1 l2 i1 i2
   generalize r.join 17 e2 = q at *
   have hpre := hat.1
   obtain ⟨⟨i1, i2⟩, -⟩ := hat.2.1
   have hlt := hat.2.2
   obtain ⟨l1, l2⟩ := hat.lens
   obtain ⟨⟨j1, j2⟩, j3⟩ := hI2
   have hk : keepE (annI q 4) (noteAt q 3 (q.iv 16).toNat) = false := by
    refine List.any_eq_false.2 fun x hx => ?_
    obtain ⟨j, hj, rfl⟩ := List.mem_map.1 hx
    have hj := List.mem_range.1 hj
    simp only [Nat.reduceAdd] at hj
    exact ne_true_of_eq_false (decide_eq_false (j3 j (by omega)))
   obtain ⟨⟨o1, o2, o3, o4⟩, n1⟩ := hat.2.1.2.1
   obtain ⟨⟨p1, p2, p3, p4⟩, n2⟩ := hat.2.1.2.2
   have htk := hat.take
   obtain ⟨_, a5, _, b5⟩ := hpre
   simp only [Nat.reduceAdd] at *
   refine Sat.ob ?_ (Sat.ob (decide_eq_true o2) (Sat.ob (decide_eq_true o3) (Sat.ob (decide_eq_true o4) (Sat.ob (nilOb hat.2.1.2.1.1) (Sat.new fun e3 hf => Sat.ob ?_ (Sat.back rfl ⟨?_, ?_⟩))))))
   ·simp only [D.le, D.lef, D.lt, D.ltf, D.eq, D.eqf, D.not, D.notf, D.and, D.andf, D.or, D.orf, D.inr, D.var, D.lit, D.cellB, D.beq, D.beqf, D.litI, D.varI, D.add, D.sub, D.mul, D.min, D.max, D.cellI, D.i64min, D.i64max]; omega
   ·simp only [D.le, D.lef, D.lt, D.ltf, D.eq, D.eqf, D.not, D.notf, D.and, D.andf, D.or, D.orf, D.inr, D.var, D.lit, D.cellB, D.beq, D.beqf, D.litI, D.varI, D.add, D.sub, D.mul, D.min, D.max, D.cellI, D.i64min, D.i64max]; simp [Env.join]; omega
   ·have hf := hf _ (List.mem_singleton.2 rfl)
    simp only [D.be, D.le, D.lef, D.lt, D.ltf, D.eq, D.eqf, D.not, D.notf, D.and, D.andf, D.or, D.orf, D.inr, D.var, D.lit, D.cellB, D.beq, D.beqf, D.litI, D.varI, D.add, D.sub, D.mul, D.min, D.max, D.cellI, D.i64min, D.i64max] at hf
    simp [Env.join] at hf
    refine ⟨⟨by simp [Sub.nenv, assoc, CV.I, CV.B, upsI, upsB, Seg.I, Seg.B, SC.I, SC.B, IE.den, BE.den, Env.join]; omega, by simp [Sub.nenv, assoc, CV.I, CV.B, upsI, upsB, Seg.I, Seg.B, SC.I, SC.B, IE.den, BE.den, Env.join]; omega⟩, ⟨?_, ?_⟩, ⟨⟨p1, p2, p3, p4⟩, ?_⟩⟩
    ·simp [OkSl, Sub.nenv, assoc, CV.I, CV.B, upsI, upsB, Seg.I, Seg.B, SC.I, SC.B, IE.den, BE.den, Env.join]
     omega
    ·refine (notes_push (ρ := q) (b := 8) (x := noteAt q 3 (q.iv 16).toNat) o2 rfl (fun i hi => ?_) ?_).trans ?_
     ·have : ¬ (q.iv 9).toNat = i := by simp only [Nat.reduceAdd] at hi; omega
      simp [noteAt, Sub.nenv, assoc, CV.I, CV.B, upsI, upsB, Seg.I, Seg.B, SC.I, SC.B, IE.den, BE.den, Env.join, this]
     ·simp [noteAt, Sub.nenv, assoc, CV.I, CV.B, upsI, upsB, Seg.I, Seg.B, SC.I, SC.B, IE.den, BE.den, Env.join]
     ·show notes q 8 ++ _ = ((notes q 0).take (q.iv 16 + 1).toNat).filter (fun n => !keepE (annI q 4) n)
      rw [htk, List.filter_append, n1]
      simp [hk]
    ·refine Eq.trans (b := notes q 12) (by exact notes_same rfl fun i _ => by simp [noteAt, Sub.nenv, assoc, CV.I, CV.B, upsI, upsB, Seg.I, Seg.B, SC.I, SC.B, IE.den, BE.den, Env.join]) ?_
     show notes q 12 = ((notes q 0).take (q.iv 16 + 1).toNat).filter (keepE (annI q 4))
     rw [htk, List.filter_append, n2]
     simp [hk]
   ·show (q.iv 1 - (q.iv 16 + 1)).toNat < (q.iv 1 - q.iv 16).toNat
    omega
 ·replace hpre : erasPre (ρ.join 8 e) := hpre
  replace hI : erasInv (ρ.join 8 e) := hI
  replace hge : ¬ (ρ.join 8 e).iv 16 < (ρ.join 8 e).iv 1 := of_decide_eq_false hge
  generalize ρ.join 8 e = q at *
  obtain ⟨⟨i1, i2⟩, ⟨o, n1⟩, ⟨p, n2⟩⟩ := hI
  rw [notes_full _ _ (by simp only [Nat.zero_add]; omega)] at n1 n2
  refine Sat.fin ⟨o, ?_, p, ?_⟩
  ·exact Eq.trans (b := notes q 8) (by exact notes_same rfl fun i _ => by simp [noteAt, Sub.nenv, assoc, CV.I, CV.B, upsI, upsB, Seg.I, Seg.B, SC.I, SC.B, IE.den, BE.den, Env.join]) n1
  ·exact Eq.trans (b := notes q 12) (by exact notes_same rfl fun i _ => by simp [noteAt, Sub.nenv, assoc, CV.I, CV.B, upsI, upsB, Seg.I, Seg.B, SC.I, SC.B, IE.den, BE.den, Env.join]) n2
theorem eras_con : ConOK Tryd.prog erasCon erasPre erasPost :=
 con_ok tabOK (E := erasE) (cs := []) rfl (fun k pre post h => by cases h) schedOK rfl eras_run (by kernel_rfl) (fun ρ _ p hp => by cases hp) eras_sat
noncomputable def spansE : Ex := { sched := sched, loops := [Ldiv, Lspans1], fin := spansCon }
def spansOut : Out :=
 .ob (.or (.not (.var 0)) (.ieq (.var 1) (.lit 0))) <|
 .ob (.ile (.lit 0) (.var 1)) <|
 .loop 8 { lo := 8, lob := 3, iv := [(16, .lit 0), (14, .lit 0), (13, .lit 0), (10, .lit 0), (9, .lit 0)], bv := [(12, .lit true), (8, .lit true)], nb := [4, 3] } <|
 .br (.ilt (.var 16) (.var 1))
 (.ob (.not (.var 0)) <|
  .ob (.ile (.lit 0) (.var 16)) <|
  .ob (.or (.not (.var 4)) (.ieq (.var 5) (.lit 0))) <|
  .ob (.ile (.lit 0) (.var 5)) <|
  .loop 17 { lo := 17, lob := 7, iv := [(17, .lit 0)] } <|
  .br (.ilt (.var 17) (.var 5))
  (.ob (.not (.var 4)) <|
   .ob (.ile (.lit 0) (.var 17)) <|
   .br (.and (.and (.cell 7 (.var 17) (.lit 0) 0) (.ile (.cell 7 (.var 17) (.lit 0) 1) (.cell 3 (.var 16) (.lit 0) 6))) (.ile (.cell 3 (.var 16) (.lit 0) 5) (.cell 7 (.var 17) (.lit 0) 2)))
   (.ob (.ile (.mul (.add (.var 13) (.lit 1)) (.lit 56)) (.lit 140737488355328)) <|
    .ob (.ile (.lit 0) (.var 13)) <|
    .ob (.ile (.var 13) (.var 14)) <|
    .ob (.ile (.var 14) (.lit 9223372036854775807)) <|
    .ob (.or (.not (.var 12)) (.ieq (.var 13) (.lit 0))) <|
    .new 18 [.be (.and (.ile (.add (.var 13) (.lit 1)) (.var 18)) (.ile (.var 18) (.lit 9223372036854775807)))] <|
    .ob (.inr .i64 (.add (.var 16) (.lit 1))) <|
    .back 1 { lo := 8, lob := 3, iv := [(16, .add (.var 16) (.lit 1)), (14, yv 18), (13, .add (.var 13) (.lit 1)), (10, yv 10), (9, yv 9)], bv := [(12, .lit false), (8, yw 8)], ct := [(15, .up { r := 15, n1 := .add (.var 13) (.lit 1), s1 := 7, ks := yN } 0 [⟨0, (.var 13), (.lit 0), 0, .int .i64 (.cell 3 (.var 16) (.lit 0) 0)⟩, ⟨0, (.var 13), (.lit 0), 1, .int .i64 (.cell 3 (.var 16) (.lit 0) 1)⟩, ⟨0, (.var 13), (.lit 0), 2, .int .i64 (.cell 3 (.var 16) (.lit 0) 2)⟩, ⟨0, (.var 13), (.lit 0), 3, .int .i64 (.cell 3 (.var 16) (.lit 0) 3)⟩, ⟨0, (.var 13), (.lit 0), 4, .bool (.cell 3 (.var 16) (.lit 0) 4)⟩, ⟨0, (.var 13), (.lit 0), 5, .int .i64 (.cell 3 (.var 16) (.lit 0) 5)⟩, ⟨0, (.var 13), (.lit 0), 6, .int .i64 (.cell 3 (.var 16) (.lit 0) 6)⟩] (.lit 0)), (11, yu 11 9 7 yN 0)], bk := [(4, yc 9 7), (3, yc 3 7)] })
   (.ob (.inr .i64 (.add (.var 17) (.lit 1))) <|
    .back 0 { lo := 17, lob := 7, iv := [(17, .add (.var 17) (.lit 1))] }))
  (.ob (.ile (.mul (.add (.var 9) (.lit 1)) (.lit 56)) (.lit 140737488355328)) <|
   .ob (.ile (.lit 0) (.var 9)) <|
   .ob (.ile (.var 9) (.var 10)) <|
   .ob (.ile (.var 10) (.lit 9223372036854775807)) <|
   .ob (.or (.not (.var 8)) (.ieq (.var 9) (.lit 0))) <|
   .new 18 [.be (.and (.ile (.add (.var 9) (.lit 1)) (.var 18)) (.ile (.var 18) (.lit 9223372036854775807)))] <|
   .ob (.inr .i64 (.add (.var 16) (.lit 1))) <|
   .back 1 { lo := 8, lob := 3, iv := [(16, .add (.var 16) (.lit 1)), (14, yv 14), (13, yv 13), (10, yv 18), (9, .add (.var 9) (.lit 1))], bv := [(12, yw 12), (8, .lit false)], ct := [(15, yu 15 13 7 yN 0), (11, .up { r := 11, n1 := .add (.var 9) (.lit 1), s1 := 7, ks := yN } 0 [⟨0, (.var 9), (.lit 0), 0, .int .i64 (.cell 3 (.var 16) (.lit 0) 0)⟩, ⟨0, (.var 9), (.lit 0), 1, .int .i64 (.cell 3 (.var 16) (.lit 0) 1)⟩, ⟨0, (.var 9), (.lit 0), 2, .int .i64 (.cell 3 (.var 16) (.lit 0) 2)⟩, ⟨0, (.var 9), (.lit 0), 3, .int .i64 (.cell 3 (.var 16) (.lit 0) 3)⟩, ⟨0, (.var 9), (.lit 0), 4, .bool (.cell 3 (.var 16) (.lit 0) 4)⟩, ⟨0, (.var 9), (.lit 0), 5, .int .i64 (.cell 3 (.var 16) (.lit 0) 5)⟩, ⟨0, (.var 9), (.lit 0), 6, .int .i64 (.cell 3 (.var 16) (.lit 0) 6)⟩] (.lit 0))], bk := [(4, yc 4 7), (3, yc 8 7)] }))
 (.fin { lo := 8, lob := 2, iv := [(14, yv 14), (13, yv 13), (10, yv 10), (9, yv 9)], bv := [(12, yw 12), (8, yw 8)], ct := [(15, yu 15 13 7 yN 0), (11, yu 11 9 7 yN 0)], bk := [(3, yc 4 7), (2, yc 3 7)] })
theorem spans_run : exec tab spansE 4000 [] (cfg0 spansCon.f 8 [] [] spansCon.hp spansCon.args) = spansOut := by kernel_rfl
def spansHit (ρ : Env) (i j : Nat) : Prop := (ρ.bc 7 j 0 0 = true ∧ ρ.ic 7 j 0 1 ≤ ρ.ic 3 i 0 6) ∧ ρ.ic 3 i 0 5 ≤ ρ.ic 7 j 0 2
def spansPre (ρ : Env) : Prop := OkSl ρ 0 ∧ ρ.iv 1 ≤ 1000000 ∧ OkSl ρ 4 ∧ ρ.iv 5 ≤ 1000000
def spansPost (ρ : Env) : Prop := OkSl ρ 8 ∧ notes ρ 8 = (notes ρ 0).filter (fun n => !keepP (annP ρ 4) n) ∧ OkSl ρ 12 ∧ notes ρ 12 = (notes ρ 0).filter (keepP (annP ρ 4))
def spansInv (ρ : Env) : Prop := (0 ≤ ρ.iv 16 ∧ ρ.iv 16 ≤ ρ.iv 1) ∧ (OkSl ρ 8 ∧ notes ρ 8 = ((notes ρ 0).take (ρ.iv 16).toNat).filter (fun n => !keepP (annP ρ 4) n)) ∧ OkSl ρ 12 ∧ notes ρ 12 = ((notes ρ 0).take (ρ.iv 16).toNat).filter (keepP (annP ρ 4))
def spansIn (ρ : Env) : Prop := (0 ≤ ρ.iv 17 ∧ ρ.iv 17 ≤ ρ.iv 5) ∧ ∀ j : Nat, (j : Int) < ρ.iv 17 → ¬ spansHit ρ (ρ.iv 16).toNat j
def spansAt (ρ : Env) : Prop := spansPre ρ ∧ spansInv ρ ∧ ρ.iv 16 < ρ.iv 1
theorem spansAt.lens {ρ : Env} (h : spansAt ρ) : ρ.iv 9 ≤ ρ.iv 16 ∧ ρ.iv 13 ≤ ρ.iv 16 := by
 obtain ⟨⟨a1, a5, b1, b5⟩, ⟨⟨i1, i2⟩, ⟨⟨o1, o2, o3, o4⟩, n1⟩, ⟨⟨p1, p2, p3, p4⟩, n2⟩⟩, hlt⟩ := h
 have l1 : (notes ρ 8).length ≤ (ρ.iv 16).toNat := by
  rw [n1]; refine Nat.le_trans (List.length_filter_le _ _) ?_; rw [List.length_take]; omega
 have l2 : (notes ρ 12).length ≤ (ρ.iv 16).toNat := by
  rw [n2]; refine Nat.le_trans (List.length_filter_le _ _) ?_; rw [List.length_take]; omega
 rw [notes_length] at l1 l2
 simp only [Nat.reduceAdd] at *
 omega
theorem spansAt.take {ρ : Env} (h : spansAt ρ) : (notes ρ 0).take (ρ.iv 16 + 1).toNat = (notes ρ 0).take (ρ.iv 16).toNat ++ [noteAt ρ 3 (ρ.iv 16).toNat] := by
 obtain ⟨_, ⟨⟨i1, i2⟩, _⟩, hlt⟩ := h
 rw [show (ρ.iv 16 + 1).toNat = (ρ.iv 16).toNat + 1 by omega]
 exact notes_take (b := 0) (by simp only [Nat.zero_add]; omega)
theorem spans_sat (ρ : Env) (hpre : spansPre ρ.num) : Sat spansPost [] [] ρ spansOut := by
 replace hpre : spansPre ρ := hpre
 unfold spansOut
 refine Sat.ob (nilOb hpre.1) (Sat.ob (decide_eq_true hpre.1.2.1) (Sat.loop spansInv (fun r => (r.iv 1 - r.iv 16).toNat) ?_ fun e hI => Sat.br (fun hlt => ?_) (fun hge => ?_)))
 ·have h2 := hpre.1.2.1
  simp [spansInv, OkSl, notes, Sub.nenv, assoc, CV.I, CV.B, upsI, upsB, Seg.I, Seg.B, SC.I, SC.B, IE.den, BE.den, h2]
 ·replace hpre : spansPre (ρ.join 8 e) := hpre
  replace hI : spansInv (ρ.join 8 e) := hI
  replace hlt : (ρ.join 8 e).iv 16 < (ρ.join 8 e).iv 1 := of_decide_eq_true hlt
  have hat : spansAt (ρ.join 8 e) := ⟨hpre, hI, hlt⟩
  clear hpre hI hlt
  have hm : ((ρ.join 8 e).num.iv 1 - (ρ.join 8 e).num.iv 16).toNat = ((ρ.join 8 e).iv 1 - (ρ.join 8 e).iv 16).toNat := rfl
  rw [hm]
  clear hm
  generalize ρ.join 8 e = r at *
  have hpre := hat.1
  obtain ⟨⟨i1, i2⟩, -⟩ := hat.2.1
  have hlt := hat.2.2
  obtain ⟨l1, l2⟩ := hat.lens
  refine Sat.ob ?_ (Sat.ob (decide_eq_true i1) (Sat.ob (nilOb hpre.2.2.1) (Sat.ob (decide_eq_true hpre.2.2.1.2.1) (Sat.loop spansIn (fun r => (r.iv 5 - r.iv 17).toNat) ?_ fun e2 hI2 => Sat.br (fun hlt2 => ?_) (fun hge2 => ?_)))))
  ·simp only [D.le, D.lef, D.lt, D.ltf, D.eq, D.eqf, D.not, D.notf, D.and, D.andf, D.or, D.orf, D.inr, D.var, D.lit, D.cellB, D.beq, D.beqf, D.litI, D.varI, D.add, D.sub, D.mul, D.min, D.max, D.cellI, D.i64min, D.i64max]
   cases h : r.bv 0
   ·rfl
   ·have := hpre.1.1 h
    simp only [Nat.zero_add] at this
    omega
  ·refine ⟨⟨Int.le_refl 0, hpre.2.2.1.2.1⟩, fun j hj => ?_⟩
   have : (j : Int) < 0 := hj
   omega
  ·replace hI2 : spansIn (r.join 17 e2) := hI2
   replace hat : spansAt (r.join 17 e2) := hat
   replace hlt2 : (r.join 17 e2).iv 17 < (r.join 17 e2).iv 5 := of_decide_eq_true hlt2
   rw [show (r.iv 1 - r.iv 16).toNat = ((r.join 17 e2).iv 1 - (r.join 17 e2).iv 16).toNat from rfl]
   rw [show ((r.join 17 e2).num.iv 5 - (r.join 17 e2).num.iv 17).toNat = ((r.join 17 e2).iv 5 - (r.join 17 e2).iv 17).toNat from rfl]
   clear hpre hlt l1 l2 i1 i2
   generalize r.join 17 e2 = q at *
   have hpre := hat.1
   obtain ⟨⟨i1, i2⟩, -⟩ := hat.2.1
   have hlt := hat.2.2
   obtain ⟨l1, l2⟩ := hat.lens
   obtain ⟨⟨j1, j2⟩, j3⟩ := hI2
   refine Sat.ob ?_ (Sat.ob (decide_eq_true j1) (Sat.br (fun heq => ?_) (fun hne => ?_)))
   ·simp only [D.le, D.lef, D.lt, D.ltf, D.eq, D.eqf, D.not, D.notf, D.and, D.andf, D.or, D.orf, D.inr, D.var, D.lit, D.cellB, D.beq, D.beqf, D.litI, D.varI, D.add, D.sub, D.mul, D.min, D.max, D.cellI, D.i64min, D.i64max]
    cases h : q.bv 4
    ·rfl
    ·have := hpre.2.2.1.1 h
     simp only [Nat.reduceAdd] at this
     omega
   ·replace heq : spansHit q (q.iv 16).toNat (q.iv 17).toNat := by simp only [D.le, D.lef, D.lt, D.ltf, D.eq, D.eqf, D.not, D.notf, D.and, D.andf, D.or, D.orf, D.inr, D.var, D.lit, D.cellB, D.beq, D.beqf, D.litI, D.varI, D.add, D.sub, D.mul, D.min, D.max, D.cellI, D.i64min, D.i64max] at heq; exact heq
    have hk : keepP (annP q 4) (noteAt q 3 (q.iv 16).toNat) = true := by
     refine List.any_eq_true.2 ⟨_, List.mem_map.2 ⟨(q.iv 17).toNat, List.mem_range.2 (by simp only [Nat.reduceAdd]; omega), rfl⟩, decide_eq_true heq⟩
    obtain ⟨⟨o1, o2, o3, o4⟩, n1⟩ := hat.2.1.2.1
    obtain ⟨⟨p1, p2, p3, p4⟩, n2⟩ := hat.2.1.2.2
    have htk := hat.take
    obtain ⟨_, a5, _, b5⟩ := hpre
    simp only [Nat.reduceAdd] at *
    refine Sat.ob ?_ (Sat.ob (decide_eq_true p2) (Sat.ob (decide_eq_true p3) (Sat.ob (decide_eq_true p4) (Sat.ob (nilOb hat.2.1.2.2.1) (Sat.new fun e3 hf => Sat.ob ?_ (Sat.back rfl ⟨?_, ?_⟩))))))
    ·simp only [D.le, D.lef, D.lt, D.ltf, D.eq, D.eqf, D.not, D.notf, D.and, D.andf, D.or, D.orf, D.inr, D.var, D.lit, D.cellB, D.beq, D.beqf, D.litI, D.varI, D.add, D.sub, D.mul, D.min, D.max, D.cellI, D.i64min, D.i64max]; omega
    ·simp only [D.le, D.lef, D.lt, D.ltf, D.eq, D.eqf, D.not, D.notf, D.and, D.andf, D.or, D.orf, D.inr, D.var, D.lit, D.cellB, D.beq, D.beqf, D.litI, D.varI, D.add, D.sub, D.mul, D.min, D.max, D.cellI, D.i64min, D.i64max]; simp [Env.join]; omega
    ·have hf := hf _ (List.mem_singleton.2 rfl)
     simp only [D.be, D.le, D.lef, D.lt, D.ltf, D.eq, D.eqf, D.not, D.notf, D.and, D.andf, D.or, D.orf, D.inr, D.var, D.lit, D.cellB, D.beq, D.beqf, D.litI, D.varI, D.add, D.sub, D.mul, D.min, D.max, D.cellI, D.i64min, D.i64max] at hf
     simp [Env.join] at hf
     refine ⟨⟨by simp [Sub.nenv, assoc, CV.I, CV.B, upsI, upsB, Seg.I, Seg.B, SC.I, SC.B, IE.den, BE.den, Env.join]; omega, by simp [Sub.nenv, assoc, CV.I, CV.B, upsI, upsB, Seg.I, Seg.B, SC.I, SC.B, IE.den, BE.den, Env.join]; omega⟩, ⟨⟨o1, o2, o3, o4⟩, ?_⟩, ⟨?_, ?_⟩⟩
     ·refine Eq.trans (b := notes q 8) (by exact notes_same rfl fun i _ => by simp [noteAt, Sub.nenv, assoc, CV.I, CV.B, upsI, upsB, Seg.I, Seg.B, SC.I, SC.B, IE.den, BE.den, Env.join]) ?_
      show notes q 8 = ((notes q 0).take (q.iv 16 + 1).toNat).filter (fun n => !keepP (annP q 4) n)
      rw [htk, List.filter_append, n1]
      simp [hk]
     ·simp [OkSl, Sub.nenv, assoc, CV.I, CV.B, upsI, upsB, Seg.I, Seg.B, SC.I, SC.B, IE.den, BE.den, Env.join]
      omega
     ·refine (notes_push (ρ := q) (b := 12) (x := noteAt q 3 (q.iv 16).toNat) p2 rfl (fun i hi => ?_) ?_).trans ?_
      ·have : ¬ (q.iv 13).toNat = i := by simp only [Nat.reduceAdd] at hi; omega
       simp [noteAt, Sub.nenv, assoc, CV.I, CV.B, upsI, upsB, Seg.I, Seg.B, SC.I, SC.B, IE.den, BE.den, Env.join, this]
      ·simp [noteAt, Sub.nenv, assoc, CV.I, CV.B, upsI, upsB, Seg.I, Seg.B, SC.I, SC.B, IE.den, BE.den, Env.join]
      ·show notes q 12 ++ _ = ((notes q 0).take (q.iv 16 + 1).toNat).filter (keepP (annP q 4))
       rw [htk, List.filter_append, n2]
       simp [hk]
    ·show (q.iv 1 - (q.iv 16 + 1)).toNat < (q.iv 1 - q.iv 16).toNat
     omega
   ·replace hne : ¬ spansHit q (q.iv 16).toNat (q.iv 17).toNat := fun h => by
     exact Bool.false_ne_true (hne.symm.trans (by simp only [D.le, D.lef, D.lt, D.ltf, D.eq, D.eqf, D.not, D.notf, D.and, D.andf, D.or, D.orf, D.inr, D.var, D.lit, D.cellB, D.beq, D.beqf, D.litI, D.varI, D.add, D.sub, D.mul, D.min, D.max, D.cellI, D.i64min, D.i64max]; exact h))
    refine Sat.ob ?_ (Sat.back rfl ⟨⟨⟨?_, ?_⟩, fun j hj => ?_⟩, ?_⟩)
    ·simp only [D.le, D.lef, D.lt, D.ltf, D.eq, D.eqf, D.not, D.notf, D.and, D.andf, D.or, D.orf, D.inr, D.var, D.lit, D.cellB, D.beq, D.beqf, D.litI, D.varI, D.add, D.sub, D.mul, D.min, D.max, D.cellI, D.i64min, D.i64max]; have := hpre.2.2.2; omega
    ·show 0 ≤ q.iv 17 + 1; omega
    ·show q.iv 17 + 1 ≤ q.iv 5; omega
    ·replace hj : (j : Int) < q.iv 17 + 1 := hj
     show ¬ spansHit q (q.iv 16).toNat j
     by_cases h : j = (q.iv 17).toNat
     ·subst h; exact hne
     ·exact j3 j (by omega)
    ·show (q.iv 5 - (q.iv 17 + 1)).toNat < (q.iv 5 - q.iv 17).toNat
     omega
  ·replace hI2 : spansIn (r.join 17 e2) := hI2
   replace hat : spansAt (r.join 17 e2) := hat
   replace hge2 : ¬ (r.join 17 e2).iv 17 < (r.join 17 e2).iv 5 := of_decide_eq_false hge2
   rw [show (r.iv 1 - r.iv 16).toNat = ((r.join 17 e2).iv 1 - (r.join 17 e2).iv 16).toNat from rfl]
   clear hpre hlt l1 l2 i1 i2
   generalize r.join 17 e2 = q at *
   have hpre := hat.1
   obtain ⟨⟨i1, i2⟩, -⟩ := hat.2.1
   have hlt := hat.2.2
   obtain ⟨l1, l2⟩ := hat.lens
   obtain ⟨⟨j1, j2⟩, j3⟩ := hI2
   have hk : keepP (annP q 4) (noteAt q 3 (q.iv 16).toNat) = false := by
    refine List.any_eq_false.2 fun x hx => ?_
    obtain ⟨j, hj, rfl⟩ := List.mem_map.1 hx
    have hj := List.mem_range.1 hj
    simp only [Nat.reduceAdd] at hj
    exact ne_true_of_eq_false (decide_eq_false (j3 j (by omega)))
   obtain ⟨⟨o1, o2, o3, o4⟩, n1⟩ := hat.2.1.2.1
   obtain ⟨⟨p1, p2, p3, p4⟩, n2⟩ := hat.2.1.2.2
   have htk := hat.take
   obtain ⟨_, a5, _, b5⟩ := hpre
   simp only [Nat.reduceAdd] at *
   refine Sat.ob ?_ (Sat.ob (decide_eq_true o2) (Sat.ob (decide_eq_true o3) (Sat.ob (decide_eq_true o4) (Sat.ob (nilOb hat.2.1.2.1.1) (Sat.new fun e3 hf => Sat.ob ?_ (Sat.back rfl ⟨?_, ?_⟩))))))
   ·simp only [D.le, D.lef, D.lt, D.ltf, D.eq, D.eqf, D.not, D.notf, D.and, D.andf, D.or, D.orf, D.inr, D.var, D.lit, D.cellB, D.beq, D.beqf, D.litI, D.varI, D.add, D.sub, D.mul, D.min, D.max, D.cellI, D.i64min, D.i64max]; omega
   ·simp only [D.le, D.lef, D.lt, D.ltf, D.eq, D.eqf, D.not, D.notf, D.and, D.andf, D.or, D.orf, D.inr, D.var, D.lit, D.cellB, D.beq, D.beqf, D.litI, D.varI, D.add, D.sub, D.mul, D.min, D.max, D.cellI, D.i64min, D.i64max]; simp [Env.join]; omega
   ·have hf := hf _ (List.mem_singleton.2 rfl)
    simp only [D.be, D.le, D.lef, D.lt, D.ltf, D.eq, D.eqf, D.not, D.notf, D.and, D.andf, D.or, D.orf, D.inr, D.var, D.lit, D.cellB, D.beq, D.beqf, D.litI, D.varI, D.add, D.sub, D.mul, D.min, D.max, D.cellI, D.i64min, D.i64max] at hf
    simp [Env.join] at hf
    refine ⟨⟨by simp [Sub.nenv, assoc, CV.I, CV.B, upsI, upsB, Seg.I, Seg.B, SC.I, SC.B, IE.den, BE.den, Env.join]; omega, by simp [Sub.nenv, assoc, CV.I, CV.B, upsI, upsB, Seg.I, Seg.B, SC.I, SC.B, IE.den, BE.den, Env.join]; omega⟩, ⟨?_, ?_⟩, ⟨⟨p1, p2, p3, p4⟩, ?_⟩⟩
    ·simp [OkSl, Sub.nenv, assoc, CV.I, CV.B, upsI, upsB, Seg.I, Seg.B, SC.I, SC.B, IE.den, BE.den, Env.join]
     omega
    ·refine (notes_push (ρ := q) (b := 8) (x := noteAt q 3 (q.iv 16).toNat) o2 rfl (fun i hi => ?_) ?_).trans ?_
     ·have : ¬ (q.iv 9).toNat = i := by simp only [Nat.reduceAdd] at hi; omega
      simp [noteAt, Sub.nenv, assoc, CV.I, CV.B, upsI, upsB, Seg.I, Seg.B, SC.I, SC.B, IE.den, BE.den, Env.join, this]
     ·simp [noteAt, Sub.nenv, assoc, CV.I, CV.B, upsI, upsB, Seg.I, Seg.B, SC.I, SC.B, IE.den, BE.den, Env.join]
     ·show notes q 8 ++ _ = ((notes q 0).take (q.iv 16 + 1).toNat).filter (fun n => !keepP (annP q 4) n)
      rw [htk, List.filter_append, n1]
      simp [hk]
    ·refine Eq.trans (b := notes q 12) (by exact notes_same rfl fun i _ => by simp [noteAt, Sub.nenv, assoc, CV.I, CV.B, upsI, upsB, Seg.I, Seg.B, SC.I, SC.B, IE.den, BE.den, Env.join]) ?_
     show notes q 12 = ((notes q 0).take (q.iv 16 + 1).toNat).filter (keepP (annP q 4))
     rw [htk, List.filter_append, n2]
     simp [hk]
   ·show (q.iv 1 - (q.iv 16 + 1)).toNat < (q.iv 1 - q.iv 16).toNat
    omega
 ·replace hpre : spansPre (ρ.join 8 e) := hpre
  replace hI : spansInv (ρ.join 8 e) := hI
  replace hge : ¬ (ρ.join 8 e).iv 16 < (ρ.join 8 e).iv 1 := of_decide_eq_false hge
  generalize ρ.join 8 e = q at *
  obtain ⟨⟨i1, i2⟩, ⟨o, n1⟩, ⟨p, n2⟩⟩ := hI
  rw [notes_full _ _ (by simp only [Nat.zero_add]; omega)] at n1 n2
  refine Sat.fin ⟨o, ?_, p, ?_⟩
  ·exact Eq.trans (b := notes q 8) (by exact notes_same rfl fun i _ => by simp [noteAt, Sub.nenv, assoc, CV.I, CV.B, upsI, upsB, Seg.I, Seg.B, SC.I, SC.B, IE.den, BE.den, Env.join]) n1
  ·exact Eq.trans (b := notes q 12) (by exact notes_same rfl fun i _ => by simp [noteAt, Sub.nenv, assoc, CV.I, CV.B, upsI, upsB, Seg.I, Seg.B, SC.I, SC.B, IE.den, BE.den, Env.join]) n2
theorem spans_con : ConOK Tryd.prog spansCon spansPre spansPost :=
 con_ok tabOK (E := spansE) (cs := []) rfl (fun k pre post h => by cases h) schedOK rfl spans_run (by kernel_rfl) (fun ρ _ p hp => by cases hp) spans_sat
noncomputable def epochsE : Ex := { sched := sched, loops := [Ldiv], fin := epochsCon }
def epochsOut : Out :=
 .ob (.or (.not (.var 0)) (.ieq (.var 1) (.lit 0))) <|
 .ob (.ile (.lit 0) (.var 1)) <|
 .loop 8 { lo := 8, lob := 2, iv := [(16, .lit 0), (14, .lit 0), (13, .lit 0), (10, .lit 0), (9, .lit 0)], bv := [(12, .lit true), (8, .lit true)], nb := [3, 2] } <|
 .br (.ilt (.var 16) (.var 1))
 (.ob (.not (.var 0)) <|
  .ob (.ile (.lit 0) (.var 16)) <|
  .ob (.or (.ilt (.var 4) (.lit (-9223372036854775806))) (.inr .i64 (.sub (.var 4) (.lit 2)))) <|
  .br (.or (.ilt (.var 4) (.lit (-9223372036854775806))) (.ilt (.sub (.var 4) (.lit 2)) (.cell 3 (.var 16) (.lit 0) 6)))
  (.ob (.ile (.mul (.add (.var 13) (.lit 1)) (.lit 56)) (.lit 140737488355328)) <|
   .ob (.ile (.lit 0) (.var 13)) <|
   .ob (.ile (.var 13) (.var 14)) <|
   .ob (.ile (.var 14) (.lit 9223372036854775807)) <|
   .ob (.or (.not (.var 12)) (.ieq (.var 13) (.lit 0))) <|
   .new 17 [.be (.and (.ile (.add (.var 13) (.lit 1)) (.var 17)) (.ile (.var 17) (.lit 9223372036854775807)))] <|
   .ob (.inr .i64 (.add (.var 16) (.lit 1))) <|
   .back 0 { lo := 8, lob := 2, iv := [(16, .add (.var 16) (.lit 1)), (14, yv 17), (13, .add (.var 13) (.lit 1)), (10, yv 10), (9, yv 9)], bv := [(12, .lit false), (8, yw 8)], ct := [(15, .up { r := 15, n1 := .add (.var 13) (.lit 1), s1 := 7, ks := yN } 0 [⟨0, (.var 13), (.lit 0), 0, .int .i64 (.cell 3 (.var 16) (.lit 0) 0)⟩, ⟨0, (.var 13), (.lit 0), 1, .int .i64 (.cell 3 (.var 16) (.lit 0) 1)⟩, ⟨0, (.var 13), (.lit 0), 2, .int .i64 (.cell 3 (.var 16) (.lit 0) 2)⟩, ⟨0, (.var 13), (.lit 0), 3, .int .i64 (.cell 3 (.var 16) (.lit 0) 3)⟩, ⟨0, (.var 13), (.lit 0), 4, .bool (.cell 3 (.var 16) (.lit 0) 4)⟩, ⟨0, (.var 13), (.lit 0), 5, .int .i64 (.cell 3 (.var 16) (.lit 0) 5)⟩, ⟨0, (.var 13), (.lit 0), 6, .int .i64 (.cell 3 (.var 16) (.lit 0) 6)⟩] (.lit 0)), (11, yu 11 9 7 yN 0)], bk := [(3, yc 7 7), (2, yc 2 7)] })
  (.ob (.ile (.mul (.add (.var 9) (.lit 1)) (.lit 56)) (.lit 140737488355328)) <|
   .ob (.ile (.lit 0) (.var 9)) <|
   .ob (.ile (.var 9) (.var 10)) <|
   .ob (.ile (.var 10) (.lit 9223372036854775807)) <|
   .ob (.or (.not (.var 8)) (.ieq (.var 9) (.lit 0))) <|
   .new 17 [.be (.and (.ile (.add (.var 9) (.lit 1)) (.var 17)) (.ile (.var 17) (.lit 9223372036854775807)))] <|
   .ob (.inr .i64 (.add (.var 16) (.lit 1))) <|
   .back 0 { lo := 8, lob := 2, iv := [(16, .add (.var 16) (.lit 1)), (14, yv 14), (13, yv 13), (10, yv 17), (9, .add (.var 9) (.lit 1))], bv := [(12, yw 12), (8, .lit false)], ct := [(15, yu 15 13 7 yN 0), (11, .up { r := 11, n1 := .add (.var 9) (.lit 1), s1 := 7, ks := yN } 0 [⟨0, (.var 9), (.lit 0), 0, .int .i64 (.cell 3 (.var 16) (.lit 0) 0)⟩, ⟨0, (.var 9), (.lit 0), 1, .int .i64 (.cell 3 (.var 16) (.lit 0) 1)⟩, ⟨0, (.var 9), (.lit 0), 2, .int .i64 (.cell 3 (.var 16) (.lit 0) 2)⟩, ⟨0, (.var 9), (.lit 0), 3, .int .i64 (.cell 3 (.var 16) (.lit 0) 3)⟩, ⟨0, (.var 9), (.lit 0), 4, .bool (.cell 3 (.var 16) (.lit 0) 4)⟩, ⟨0, (.var 9), (.lit 0), 5, .int .i64 (.cell 3 (.var 16) (.lit 0) 5)⟩, ⟨0, (.var 9), (.lit 0), 6, .int .i64 (.cell 3 (.var 16) (.lit 0) 6)⟩] (.lit 0))], bk := [(3, yc 3 7), (2, yc 7 7)] }))
 (.fin { lo := 8, lob := 1, iv := [(14, yv 14), (13, yv 13), (10, yv 10), (9, yv 9)], bv := [(12, yw 12), (8, yw 8)], ct := [(15, yu 15 13 7 yN 0), (11, yu 11 9 7 yN 0)], bk := [(2, yc 3 7), (1, yc 2 7)] })
theorem epochs_run : exec tab epochsE 4000 [] (cfg0 epochsCon.f 8 [] [] epochsCon.hp epochsCon.args) = epochsOut := by kernel_rfl
def epochsPre (ρ : Env) : Prop := OkSl ρ 0 ∧ ρ.iv 1 ≤ 1000000 ∧ -9223372036854775808 ≤ ρ.iv 4 ∧ ρ.iv 4 ≤ 9223372036854775807
def epochsPost (ρ : Env) : Prop := OkSl ρ 8 ∧ notes ρ 8 = (notes ρ 0).filter (fun n => !keepT (ρ.iv 4) n) ∧ OkSl ρ 12 ∧ notes ρ 12 = (notes ρ 0).filter (keepT (ρ.iv 4))
def epochsInv (ρ : Env) : Prop := (0 ≤ ρ.iv 16 ∧ ρ.iv 16 ≤ ρ.iv 1) ∧ (OkSl ρ 8 ∧ notes ρ 8 = ((notes ρ 0).take (ρ.iv 16).toNat).filter (fun n => !keepT (ρ.iv 4) n)) ∧ OkSl ρ 12 ∧ notes ρ 12 = ((notes ρ 0).take (ρ.iv 16).toNat).filter (keepT (ρ.iv 4))
def epochsAt (ρ : Env) : Prop := epochsPre ρ ∧ epochsInv ρ ∧ ρ.iv 16 < ρ.iv 1
theorem epochsAt.lens {ρ : Env} (h : epochsAt ρ) : ρ.iv 9 ≤ ρ.iv 16 ∧ ρ.iv 13 ≤ ρ.iv 16 := by
 obtain ⟨⟨a1, a5, b1⟩, ⟨⟨i1, i2⟩, ⟨⟨o1, o2, o3, o4⟩, n1⟩, ⟨⟨p1, p2, p3, p4⟩, n2⟩⟩, hlt⟩ := h
 have l1 : (notes ρ 8).length ≤ (ρ.iv 16).toNat := by
  rw [n1]; refine Nat.le_trans (List.length_filter_le _ _) ?_; rw [List.length_take]; omega
 have l2 : (notes ρ 12).length ≤ (ρ.iv 16).toNat := by
  rw [n2]; refine Nat.le_trans (List.length_filter_le _ _) ?_; rw [List.length_take]; omega
 rw [notes_length] at l1 l2
 simp only [Nat.reduceAdd] at *
 omega
theorem epochsAt.take {ρ : Env} (h : epochsAt ρ) : (notes ρ 0).take (ρ.iv 16 + 1).toNat = (notes ρ 0).take (ρ.iv 16).toNat ++ [noteAt ρ 3 (ρ.iv 16).toNat] := by
 obtain ⟨_, ⟨⟨i1, i2⟩, _⟩, hlt⟩ := h
 rw [show (ρ.iv 16 + 1).toNat = (ρ.iv 16).toNat + 1 by omega]
 exact notes_take (b := 0) (by simp only [Nat.zero_add]; omega)
theorem epochs_sat (ρ : Env) (hpre : epochsPre ρ.num) : Sat epochsPost [] [] ρ epochsOut := by
 replace hpre : epochsPre ρ := hpre
 unfold epochsOut
 refine Sat.ob (nilOb hpre.1) (Sat.ob (decide_eq_true hpre.1.2.1) (Sat.loop epochsInv (fun r => (r.iv 1 - r.iv 16).toNat) ?_ fun e hI => Sat.br (fun hlt => ?_) (fun hge => ?_)))
 ·have h2 := hpre.1.2.1
  simp [epochsInv, OkSl, notes, Sub.nenv, assoc, CV.I, CV.B, upsI, upsB, Seg.I, Seg.B, SC.I, SC.B, IE.den, BE.den, h2]
 ·replace hpre : epochsPre (ρ.join 8 e) := hpre
  replace hI : epochsInv (ρ.join 8 e) := hI
  replace hlt : (ρ.join 8 e).iv 16 < (ρ.join 8 e).iv 1 := of_decide_eq_true hlt
  have hat : epochsAt (ρ.join 8 e) := ⟨hpre, hI, hlt⟩
  clear hpre hI hlt
  have hm : ((ρ.join 8 e).num.iv 1 - (ρ.join 8 e).num.iv 16).toNat = ((ρ.join 8 e).iv 1 - (ρ.join 8 e).iv 16).toNat := rfl
  rw [hm]
  clear hm
  generalize ρ.join 8 e = r at *
  have hpre := hat.1
  obtain ⟨⟨i1, i2⟩, -⟩ := hat.2.1
  have hlt := hat.2.2
  obtain ⟨l1, l2⟩ := hat.lens
  obtain ⟨⟨o1, o2, o3, o4⟩, n1⟩ := hat.2.1.2.1
  obtain ⟨⟨p1, p2, p3, p4⟩, n2⟩ := hat.2.1.2.2
  have htk := hat.take
  have hpre := hat.1
  obtain ⟨_, a5, b4, b5⟩ := hpre
  simp only [Nat.reduceAdd] at *
  refine Sat.ob ?_ (Sat.ob (decide_eq_true i1) (Sat.ob ?_ (Sat.br (fun heq => ?_) (fun hne => ?_))))
  ·simp only [D.le, D.lef, D.lt, D.ltf, D.eq, D.eqf, D.not, D.notf, D.and, D.andf, D.or, D.orf, D.inr, D.var, D.lit, D.cellB, D.beq, D.beqf, D.litI, D.varI, D.add, D.sub, D.mul, D.min, D.max, D.cellI, D.i64min, D.i64max]
   cases h : r.bv 0
   ·rfl
   ·have := hat.1.1.1 h
    simp only [Nat.zero_add] at this
    omega
  ·simp only [D.le, D.lef, D.lt, D.ltf, D.eq, D.eqf, D.not, D.notf, D.and, D.andf, D.or, D.orf, D.inr, D.var, D.lit, D.cellB, D.beq, D.beqf, D.litI, D.varI, D.add, D.sub, D.mul, D.min, D.max, D.cellI, D.i64min, D.i64max]
   omega
  ·have hk : keepT (r.iv 4) (noteAt r 3 (r.iv 16).toNat) = true := by
    simp only [D.le, D.lef, D.lt, D.ltf, D.eq, D.eqf, D.not, D.notf, D.and, D.andf, D.or, D.orf, D.inr, D.var, D.lit, D.cellB, D.beq, D.beqf, D.litI, D.varI, D.add, D.sub, D.mul, D.min, D.max, D.cellI, D.i64min, D.i64max] at heq
    exact decide_eq_true heq
   refine Sat.ob ?_ (Sat.ob (decide_eq_true p2) (Sat.ob (decide_eq_true p3) (Sat.ob (decide_eq_true p4) (Sat.ob (nilOb hat.2.1.2.2.1) (Sat.new fun e3 hf => Sat.ob ?_ (Sat.back rfl ⟨?_, ?_⟩))))))
   ·simp only [D.le, D.lef, D.lt, D.ltf, D.eq, D.eqf, D.not, D.notf, D.and, D.andf, D.or, D.orf, D.inr, D.var, D.lit, D.cellB, D.beq, D.beqf, D.litI, D.varI, D.add, D.sub, D.mul, D.min, D.max, D.cellI, D.i64min, D.i64max]; omega
   ·simp only [D.le, D.lef, D.lt, D.ltf, D.eq, D.eqf, D.not, D.notf, D.and, D.andf, D.or, D.orf, D.inr, D.var, D.lit, D.cellB, D.beq, D.beqf, D.litI, D.varI, D.add, D.sub, D.mul, D.min, D.max, D.cellI, D.i64min, D.i64max]; simp [Env.join]; omega
   ·have hf := hf _ (List.mem_singleton.2 rfl)
    simp only [D.be, D.le, D.lef, D.lt, D.ltf, D.eq, D.eqf, D.not, D.notf, D.and, D.andf, D.or, D.orf, D.inr, D.var, D.lit, D.cellB, D.beq, D.beqf, D.litI, D.varI, D.add, D.sub, D.mul, D.min, D.max, D.cellI, D.i64min, D.i64max] at hf
    simp [Env.join] at hf
    refine ⟨⟨by simp [Sub.nenv, assoc, CV.I, CV.B, upsI, upsB, Seg.I, Seg.B, SC.I, SC.B, IE.den, BE.den, Env.join]; omega, by simp [Sub.nenv, assoc, CV.I, CV.B, upsI, upsB, Seg.I, Seg.B, SC.I, SC.B, IE.den, BE.den, Env.join]; omega⟩, ⟨⟨o1, o2, o3, o4⟩, ?_⟩, ⟨?_, ?_⟩⟩
    ·refine Eq.trans (b := notes r 8) (by exact notes_same rfl fun i _ => by simp [noteAt, Sub.nenv, assoc, CV.I, CV.B, upsI, upsB, Seg.I, Seg.B, SC.I, SC.B, IE.den, BE.den, Env.join]) ?_
     show notes r 8 = ((notes r 0).take (r.iv 16 + 1).toNat).filter (fun n => !keepT (r.iv 4) n)
     rw [htk, List.filter_append, n1]
     simp [hk]
    ·simp [OkSl, Sub.nenv, assoc, CV.I, CV.B, upsI, upsB, Seg.I, Seg.B, SC.I, SC.B, IE.den, BE.den, Env.join]
     omega
    ·refine (notes_push (ρ := r) (b := 12) (x := noteAt r 3 (r.iv 16).toNat) p2 rfl (fun i hi => ?_) ?_).trans ?_
     ·have : ¬ (r.iv 13).toNat = i := by simp only [Nat.reduceAdd] at hi; omega
      simp [noteAt, Sub.nenv, assoc, CV.I, CV.B, upsI, upsB, Seg.I, Seg.B, SC.I, SC.B, IE.den, BE.den, Env.join, this]
     ·simp [noteAt, Sub.nenv, assoc, CV.I, CV.B, upsI, upsB, Seg.I, Seg.B, SC.I, SC.B, IE.den, BE.den, Env.join]
     ·show notes r 12 ++ _ = ((notes r 0).take (r.iv 16 + 1).toNat).filter (keepT (r.iv 4))
      rw [htk, List.filter_append, n2]
      simp [hk]
   ·show (r.iv 1 - (r.iv 16 + 1)).toNat < (r.iv 1 - r.iv 16).toNat
    omega
  ·have hk : keepT (r.iv 4) (noteAt r 3 (r.iv 16).toNat) = false := by
    refine decide_eq_false fun h => Bool.false_ne_true (hne.symm.trans ?_)
    simp only [D.le, D.lef, D.lt, D.ltf, D.eq, D.eqf, D.not, D.notf, D.and, D.andf, D.or, D.orf, D.inr, D.var, D.lit, D.cellB, D.beq, D.beqf, D.litI, D.varI, D.add, D.sub, D.mul, D.min, D.max, D.cellI, D.i64min, D.i64max]; exact h
   refine Sat.ob ?_ (Sat.ob (decide_eq_true o2) (Sat.ob (decide_eq_true o3) (Sat.ob (decide_eq_true o4) (Sat.ob (nilOb hat.2.1.2.1.1) (Sat.new fun e3 hf => Sat.ob ?_ (Sat.back rfl ⟨?_, ?_⟩))))))
   ·simp only [D.le, D.lef, D.lt, D.ltf, D.eq, D.eqf, D.not, D.notf, D.and, D.andf, D.or, D.orf, D.inr, D.var, D.lit, D.cellB, D.beq, D.beqf, D.litI, D.varI, D.add, D.sub, D.mul, D.min, D.max, D.cellI, D.i64min, D.i64max]; omega
   ·simp only [D.le, D.lef, D.lt, D.ltf, D.eq, D.eqf, D.not, D.notf, D.and, D.andf, D.or, D.orf, D.inr, D.var, D.lit, D.cellB, D.beq, D.beqf, D.litI, D.varI, D.add, D.sub, D.mul, D.min, D.max, D.cellI, D.i64min, D.i64max]; simp [Env.join]; omega
   ·have hf := hf _ (List.mem_singleton.2 rfl)
    simp only [D.be, D.le, D.lef, D.lt, D.ltf, D.eq, D.eqf, D.not, D.notf, D.and, D.andf, D.or, D.orf, D.inr, D.var, D.lit, D.cellB, D.beq, D.beqf, D.litI, D.varI, D.add, D.sub, D.mul, D.min, D.max, D.cellI, D.i64min, D.i64max] at hf
    simp [Env.join] at hf
    refine ⟨⟨by simp [Sub.nenv, assoc, CV.I, CV.B, upsI, upsB, Seg.I, Seg.B, SC.I, SC.B, IE.den, BE.den, Env.join]; omega, by simp [Sub.nenv, assoc, CV.I, CV.B, upsI, upsB, Seg.I, Seg.B, SC.I, SC.B, IE.den, BE.den, Env.join]; omega⟩, ⟨?_, ?_⟩, ⟨⟨p1, p2, p3, p4⟩, ?_⟩⟩
    ·simp [OkSl, Sub.nenv, assoc, CV.I, CV.B, upsI, upsB, Seg.I, Seg.B, SC.I, SC.B, IE.den, BE.den, Env.join]
     omega
    ·refine (notes_push (ρ := r) (b := 8) (x := noteAt r 3 (r.iv 16).toNat) o2 rfl (fun i hi => ?_) ?_).trans ?_
     ·have : ¬ (r.iv 9).toNat = i := by simp only [Nat.reduceAdd] at hi; omega
      simp [noteAt, Sub.nenv, assoc, CV.I, CV.B, upsI, upsB, Seg.I, Seg.B, SC.I, SC.B, IE.den, BE.den, Env.join, this]
     ·simp [noteAt, Sub.nenv, assoc, CV.I, CV.B, upsI, upsB, Seg.I, Seg.B, SC.I, SC.B, IE.den, BE.den, Env.join]
     ·show notes r 8 ++ _ = ((notes r 0).take (r.iv 16 + 1).toNat).filter (fun n => !keepT (r.iv 4) n)
      rw [htk, List.filter_append, n1]
      simp [hk]
    ·refine Eq.trans (b := notes r 12) (by exact notes_same rfl fun i _ => by simp [noteAt, Sub.nenv, assoc, CV.I, CV.B, upsI, upsB, Seg.I, Seg.B, SC.I, SC.B, IE.den, BE.den, Env.join]) ?_
     show notes r 12 = ((notes r 0).take (r.iv 16 + 1).toNat).filter (keepT (r.iv 4))
     rw [htk, List.filter_append, n2]
     simp [hk]
   ·show (r.iv 1 - (r.iv 16 + 1)).toNat < (r.iv 1 - r.iv 16).toNat
    omega
 ·replace hpre : epochsPre (ρ.join 8 e) := hpre
  replace hI : epochsInv (ρ.join 8 e) := hI
  replace hge : ¬ (ρ.join 8 e).iv 16 < (ρ.join 8 e).iv 1 := of_decide_eq_false hge
  generalize ρ.join 8 e = q at *
  obtain ⟨⟨i1, i2⟩, ⟨o, n1⟩, ⟨p, n2⟩⟩ := hI
  rw [notes_full _ _ (by simp only [Nat.zero_add]; omega)] at n1 n2
  refine Sat.fin ⟨o, ?_, p, ?_⟩
  ·exact Eq.trans (b := notes q 8) (by exact notes_same rfl fun i _ => by simp [noteAt, Sub.nenv, assoc, CV.I, CV.B, upsI, upsB, Seg.I, Seg.B, SC.I, SC.B, IE.den, BE.den, Env.join]) n1
  ·exact Eq.trans (b := notes q 12) (by exact notes_same rfl fun i _ => by simp [noteAt, Sub.nenv, assoc, CV.I, CV.B, upsI, upsB, Seg.I, Seg.B, SC.I, SC.B, IE.den, BE.den, Env.join]) n2
theorem epochs_con : ConOK Tryd.prog epochsCon epochsPre epochsPost :=
 con_ok tabOK (E := epochsE) (cs := []) rfl (fun k pre post h => by cases h) schedOK rfl epochs_run (by kernel_rfl) (fun ρ _ p hp => by cases hp) epochs_sat
end Go.Proofs.YthomdlajobnmnaaDoor.Sv

set_option linter.unusedSimpArgs false
set_option linter.unusedVariables false
namespace Go.Proofs.YthomdlajobnmnaaDoor
open Go.Rex
def knK : Kn := [(.ile (.lit 0) (.var 0), true), (.ilt (.var 0) (.lit 6), true), (.ilt (.var 1) (.lit 0), false), (.ile (.lit 9) (.var 1), false)]
noncomputable def keepE : Ex := { sched := sched, loops := [], fin := keepCon }
def keepOut : Out :=
 .ob (.inr .i64 (.mul (.var 0) (.lit 9))) <|
 .ob (.inr .i64 (.add (.lit 25) (.mul (.var 0) (.lit 9)))) <|
 .ob (.inr .i64 (.add (.add (.lit 25) (.mul (.var 0) (.lit 9))) (.var 1))) <|
 .fin { lo := 2, lob := 0 }
theorem keep_run : exec tab keepE 8000 [] (cfg0 keepCon.f keepCon.nv knK keepCon.gl keepCon.hp keepCon.args) = keepOut := by kernel_rfl
def keepPre (ρ : Env) : Prop := (0 ≤ ρ.iv 0 ∧ ρ.iv 0 < 6) ∧ 0 ≤ ρ.iv 1 ∧ ρ.iv 1 < 9
def yesP (_ : Env) : Prop := True
theorem keep_sat (ρ : Env) (hpre : keepPre ρ.num) : Sat yesP [] [] ρ keepOut := by
 replace hpre : keepPre ρ := hpre
 obtain ⟨⟨a, b⟩, c, d⟩ := hpre
 unfold keepOut
 refine Sat.ob ?_ (Sat.ob ?_ (Sat.ob ?_ (Sat.fin trivial)))
 all_goals simp only [Da]; omega
theorem keep_con : ConOK Tryd.prog keepCon keepPre yesP :=
 con_ok tabOK (E := keepE) (cs := []) rfl (fun k pre post h => by cases h) schedOK rfl keep_run (by kernel_rfl) (fun ρ h p hp => by
   obtain ⟨⟨a, b⟩, c, d⟩ := h
   simp only [knK, List.mem_cons, List.not_mem_nil, or_false] at hp
   rcases hp with rfl | rfl | rfl | rfl
   · exact decide_eq_true a
   · exact decide_eq_true b
   · exact decide_eq_false (by simp only [IE.den]; omega)
   · exact decide_eq_false (by simp only [IE.den]; omega)) keep_sat
def knS : Kn := [(.ile (.lit 0) (.var 0), true), (.ilt (.var 0) (.lit 6), true)]
noncomputable def spanE : Ex := { sched := sched, loops := [], fin := spanCon }
def spanOut : Out :=
 .ob (.inr .i64 (.add (.lit 79) (.var 0))) <|
 .fin { lo := 1, lob := 0 }
theorem span_run : exec tab spanE 8000 [] (cfg0 spanCon.f spanCon.nv knS spanCon.gl spanCon.hp spanCon.args) = spanOut := by kernel_rfl
def spanPre (ρ : Env) : Prop := 0 ≤ ρ.iv 0 ∧ ρ.iv 0 < 6
theorem span_sat (ρ : Env) (hpre : spanPre ρ.num) : Sat yesP [] [] ρ spanOut := by
 replace hpre : spanPre ρ := hpre
 obtain ⟨a, b⟩ := hpre
 unfold spanOut
 refine Sat.ob ?_ (Sat.fin trivial)
 simp only [Da]; omega
theorem span_con : ConOK Tryd.prog spanCon spanPre yesP :=
 con_ok tabOK (E := spanE) (cs := []) rfl (fun k pre post h => by cases h) schedOK rfl span_run (by kernel_rfl) (fun ρ h p hp => by
   obtain ⟨a, b⟩ := h
   simp only [knS, List.mem_cons, List.not_mem_nil, or_false] at hp
   rcases hp with rfl | rfl
   · exact decide_eq_true a
   · exact decide_eq_true b) span_sat
def knR : Kn := [(.ilt (.var 0) (.lit 0), false), (.ile (.lit 24) (.var 0), false)]
noncomputable def rootE : Ex := { sched := sched, loops := [], fin := rootCon }
def rootOut : Out :=
 .ob (.inr .i64 (.var 0)) <|
 .fin { lo := 1, lob := 0 }
theorem root_run : exec tab rootE 8000 [] (cfg0 rootCon.f rootCon.nv knR rootCon.gl rootCon.hp rootCon.args) = rootOut := by kernel_rfl
def rootPre (ρ : Env) : Prop := 0 ≤ ρ.iv 0 ∧ ρ.iv 0 < 24
theorem root_sat (ρ : Env) (hpre : rootPre ρ.num) : Sat yesP [] [] ρ rootOut := by
 replace hpre : rootPre ρ := hpre
 obtain ⟨a, b⟩ := hpre
 unfold rootOut
 refine Sat.ob ?_ (Sat.fin trivial)
 simp only [Da]; omega
theorem root_con : ConOK Tryd.prog rootCon rootPre yesP :=
 con_ok tabOK (E := rootE) (cs := []) rfl (fun k pre post h => by cases h) schedOK rfl root_run (by kernel_rfl) (fun ρ h p hp => by
   obtain ⟨a, b⟩ := h
   simp only [knR, List.mem_cons, List.not_mem_nil, or_false] at hp
   rcases hp with rfl | rfl
   · exact decide_eq_false (by simp only [IE.den]; omega)
   · exact decide_eq_false (by simp only [IE.den]; omega)) root_sat
def bSem : CSem := [(keepCon, keepPre, yesP), (spanCon, spanPre, yesP)]
theorem bSem_ok : ∀ k pre post, (k, pre, post) ∈ bSem → conWf k = true ∧ ConOK Tryd.prog k pre post := by
 intro k pre post h
 simp only [bSem, List.mem_cons, List.not_mem_nil, or_false, Prod.mk.injEq] at h
 rcases h with ⟨rfl, rfl, rfl⟩ | ⟨rfl, rfl, rfl⟩
 ·exact ⟨by kernel_rfl, keep_con⟩
 ·exact ⟨by kernel_rfl, span_con⟩
end Go.Proofs.YthomdlajobnmnaaDoor

set_option linter.unusedSimpArgs false
set_option linter.unusedVariables false
namespace Go.Proofs.YthomdlajobnmnaaDoor
open Go.Rex
noncomputable def reapE : Ex := { sched := sched, loops := [], fin := reapCon }
def reapOut : Out :=
 .ob (.or (.not (.var 51)) (.ieq (.var 52) (.lit 0))) <|
 .ob (.ile (.lit 0) (.var 52)) <|
 .br (.ieq (.var 52) (.lit 0))
 (.fin { lo := 71, lob := 4, iv := [(132, .lit 0), (131, .lit 0), (130, .lit 0), (129, .lit 0), (128, yv 61), (127, yv 60), (126, yv 59), (124, yv 57), (123, yv 56), (120, .lit 0), (119, .lit 0), (117, .lit 0), (116, .lit 0), (114, .lit 0), (112, .lit 0), (111, .lit 0), (110, .lit 0), (109, .lit 0), (107, .lit 0), (106, .lit 0), (105, .lit 0), (104, .lit 0), (102, .lit 0), (101, .lit 0), (100, .lit 0), (99, .lit 0), (97, .lit 0), (96, .lit 0), (95, .lit 0), (94, .lit 0), (93, .lit 0), (92, .lit 0), (91, .lit 0), (90, .lit 0), (89, .lit 0), (88, .lit 0), (87, .lit 0), (86, .lit 0), (85, .lit 0), (83, .lit 0), (82, .lit 0), (81, .lit 0), (80, .lit 0), (78, .lit 0), (77, .lit 0), (76, .lit 0), (75, .lit 0), (74, .lit 0), (73, .lit 0), (72, .lit 0), (71, .lit 0)], bv := [(134, .lit true), (133, .lit false), (125, yw 58), (122, yw 55), (118, .lit true), (115, .lit true), (113, .lit false), (108, .lit false), (103, .lit false), (98, .lit false), (84, .lit false), (79, .lit false)], ct := [(137, yu 70 59 7 yN 0), (121, yl 54 9 5 50 yW 0)], bk := [(6, yc 3 7)], nb := [5, 4, 5, 4] })
 (.ob (.not (.var 51)) <|
  .ob (.ilt (.lit 0) (.var 52)) <|
  .ob (.ile (.lit 0) (.var 69)) <|
  .ob (.ilt (.var 69) (.var 70)) <|
  .fin { lo := 71, lob := 4, iv := [(137, yv 70), (132, yv 65), (131, yv 64), (130, yv 63), (129, yv 62), (128, yv 61), (127, yv 60), (126, yv 59), (124, yv 57), (123, yv 56), (120, yv 53), (119, yv 52), (136, yv 69), (117, yv 50), (116, yv 49), (114, yv 47), (112, yv 45), (111, yv 44), (110, yv 43), (109, yv 42), (107, yv 40), (106, yv 39), (105, yv 38), (104, yv 37), (102, .lit 0), (101, .lit 0), (100, .lit 0), (99, .lit 0), (97, .cell 69 (.var 69) (.lit 0) 3), (96, .cell 69 (.var 69) (.lit 0) 2), (95, .cell 69 (.var 69) (.lit 0) 1), (94, .cell 69 (.var 69) (.lit 0) 0), (93, .lit 0), (92, .lit 0), (91, .lit 0), (90, .lit 5), (89, .lit 16), (88, yv 21), (87, yv 20), (86, yv 19), (85, yv 18), (83, yv 16), (82, yv 15), (81, yv 14), (80, yv 13), (78, yv 11), (77, yv 10), (76, yv 9), (75, yv 8), (74, yv 7), (73, yv 6), (72, yv 5), (71, yv 4)], bv := [(134, yw 67), (133, yw 66), (125, yw 58), (122, yw 55), (118, yw 51), (115, yw 48), (113, yw 46), (108, yw 41), (103, .lit false), (98, .cell 69 (.var 69) (.lit 0) 4), (84, yw 17), (79, yw 12)], ct := [(137, yu 70 59 7 yN 0), (136, yu 69 70 7 yN 0), (135, yu 68 49 5 yW 0), (121, yl 54 9 5 50 yW 0)], bk := [(6, yc 3 7), (5, yc 2 7), (4, yc 1 5)] })
theorem reap_run : exec tab reapE 8000 [] (cfg0 reapCon.f reapCon.nv [] reapCon.gl reapCon.hp reapCon.args) = reapOut := by kernel_rfl
def rPre (ρ : Env) : Prop := OkR ρ 4
def reapPost (ρ : Env) : Prop := OkR ρ 71 ∧ rsRd ρ 0 71 = (rsRd ρ 0 4).reap
theorem reap_sat (ρ : Env) (hpre : rPre ρ.num) : Sat reapPost [] [] ρ reapOut := by
 replace hpre : rPre ρ := hpre
 obtain ⟨o1, o2, o3⟩ := hpre
 unfold reapOut
 have p2 := o2.1.2.1
 have p3 := o2.2
 simp only [Nat.reduceAdd] at p2 p3
 refine Sat.ob (nilOb o2.1) (Sat.ob (decide_eq_true p2) (Sat.br (fun c => ?_) (fun c => ?_)))
 ·simp only [Da] at c
  have hd : (rsRd ρ 0 4).doomed = [] := dmRow_nil c
  have hm : (rsRd ρ 0 4).reap = (rsRd ρ 0 4).done := by unfold RS.reap; rw [hd]
  exact Sat.fin ⟨⟨(by first | exact o1 | exact o2 | exact o3 | exact okNil rfl rfl | assumption), (by first | exact o2 | exact ⟨okNil rfl rfl, Int.le_refl 0, .inl rfl⟩ | assumption), (by first | exact o1 | exact o2 | exact o3 | exact okNil rfl rfl | assumption)⟩, Eq.trans (b := (rsRd ρ 0 4).done) (RS.ext' rfl rfl rfl rfl rfl rfl rW1 rD1 rfl rfl rfl rfl rH1 rfl rN1 rfl rfl) (Eq.symm (hm))⟩
 ·simp only [Da] at c
  have h1 : (rsRd ρ 0 4).doomed = _ := dmRow_cons (ρ := ρ) (r := 69) (o := ρ.iv 69) (n := ρ.iv 52) (by omega) p3.1
  have hm : (rsRd ρ 0 4).reap = (rsRd ρ 0 4).ask 16 ⟨5, 0, 0, 0, (ntAt ρ 69 (ρ.iv 69).toNat).ref, Wd.zero⟩ := by unfold RS.reap; rw [h1]
  refine Sat.ob (nilLt o2.1 (by simp only [Nat.reduceAdd]; omega)) (Sat.ob (by simp only [Da]; omega) (Sat.ob (by simp only [Da]; omega) (Sat.ob (by simp only [Da]; omega) (Sat.fin ⟨⟨(by first | exact o1 | exact o2 | exact o3 | exact okNil rfl rfl | assumption), (by first | exact o2 | exact ⟨okNil rfl rfl, Int.le_refl 0, .inl rfl⟩ | assumption), (by first | exact o1 | exact o2 | exact o3 | exact okNil rfl rfl | assumption)⟩, Eq.trans (b := (rsRd ρ 0 4).ask 16 ⟨5, 0, 0, 0, (ntAt ρ 69 (ρ.iv 69).toNat).ref, Wd.zero⟩) (RS.ext' rfl rfl rfl rfl rfl rfl rW1 rD1 rfl rfl rfl rfl rH1 rfl rN1 rfl rfl) (Eq.symm (hm))⟩))))
theorem reap_con : ConOK Tryd.prog reapCon rPre reapPost :=
 con_ok tabOK (E := reapE) (cs := []) rfl (fun k pre post h => by cases h) schedOK rfl reap_run (by kernel_rfl) (fun ρ _ p hp => by cases hp) reap_sat
end Go.Proofs.YthomdlajobnmnaaDoor
